/-
  Walks of package cutlist: text, Print.; Walks of package cutlist: the words of a line.; Walks of package cutlist: line.; Walks of package cutlist: Print, Parse.
-/
import Derived.Test.YtohlpeicpoaanaaGreatDoorCU
import Derived.Test.YtohlpeicpoaanaaGreatDoorShelfE
import Derived.Maps.AppendAt
import Derived.Maps.OwnIn
namespace Go.Proofs.YtohlpeicpoaanaaGreatDoor
section
open Go.RowKit Kp Go.Sort
theorem far_cells {w w':World} {b g:Nat} {cs:Array Value} {t:TypeId} {f:Nat × Nat} (h:Far w b w') (hb:w.heap[g]? = some (.cells cs t f)) (hne:g≠b) (ht:t≠5):w'.heap[g]? = some (.cells cs t f):=h.2 _ _ hne (fun cs fr e=>ht (by cases e; rfl)) hb
theorem CtSl.cellsAt {w:World} {a:Option Addr} {n cap:Nat} {l:List Ct} (h:CtSl w (.slice a n cap) l) {i:Nat} (hi:i<l.length) :
  ∃ b o a2 c2,a=some ⟨b,o,none⟩∧b<w.heap.size∧NumSl w (.slice a2 (ctAt l i).ms.length c2) (ctAt l i).ms∧w.cell? ⟨b,o+i*4,none⟩=some (.int .i64 (ctAt l i).w)∧w.cell? ⟨b,o+i*4+1,none⟩=some (.int .i64 (ctAt l i).d)∧w.cell? ⟨b,o+i*4+2,none⟩=some (.int .i64 (ctAt l i).n)∧w.cell? ⟨b,o+i*4+3,none⟩=some (.slice a2 (ctAt l i).ms.length c2):=by
 obtain ⟨a',cap',he,hc⟩:=h
 injection he with h1 h2 h3
 subst h1 h2 h3
 obtain ⟨b,o,u,ha,hb,hn,hcell⟩:=hc i hi
 obtain ⟨a2,c2,rfl,-⟩:=id hn
 exact ⟨b,o,a2,c2,ha,hb,hn,hcell 0 _ rfl,hcell 1 _ rfl,hcell 2 _ rfl,hcell 3 _ rfl⟩
theorem num_cells {W:World} {g gc n B:Nat} {L:List Int} (hL:L.length=n) (h:W.ownsRow B 3 1 (.slice (some ⟨g,0,none⟩) n gc) n (numC L)):∀ j,j<n→W.cell? ⟨g,j,none⟩=some (.int .i64 (atI L j)):=by
 subst hL
 have h2:=NumSl.cell (RowSl.of_row (l:=L) (fun _=>rfl) (by rw [rowOf_num]; exact h))
 intro j hj
 obtain ⟨b,o,he,hb,hc⟩:=h2.2 j hj
 injection he with he
 injection he with e1 e2
 subst e1 e2
 rwa [Nat.zero_add] at hc
set_option maxRecDepth 100000 in
set_option maxHeartbeats 4000000 in
theorem cut_text (l:List Ct) (hln:l.length≤512) (hok:∀ x∈l,PcOk x∧x.ms.length≤512) (v:Value) (w:World) (hE:Env w) (hv:CtSl w v l) :
  Calls Tryz.prog 38 #[v] w fun e w'=>e=.returned (.string ⟨(textF l).toArray⟩)∧Q w w':=by
 have HV:Hid (∀ W,Q w W→CtSl W v l):=LH (fun W hq=>hv.keep hq)
 have HO:Hid (∀ k,k<l.length→PcOk (ctAt l k)∧(ctAt l k).ms.length≤512):=LH (fun k hk=>hok _ (by rw [ctAt_get hk]; exact List.getElem_mem hk))
 have HT:Hid (∀ k,k<l.length→textF (l.take (k+1))=textF (l.take k)++(joinF (numF (ctAt l k))++[10])):=LH (fun k hk=>textF_take hk)
 have HB:Hid (∀ k,(textF (l.take k)).length≤2200000):=LH (fun k=>by
  have h:=textF_len (l.take k) (fun x hx=>hok x (List.mem_of_mem_take hx))
  rw [List.length_take] at h
  omega)
 have HL:=LH (List.take_length (l:=l))
 obtain ⟨i0,ci,cz0,cz1,cz2⟩:=info_parts infoInt
 obtain ⟨a,cap,rfl,-⟩:=hv
 have hF:=Lib.fresh_isBuilder 98 5 w
 clear hok
 go_enter Tryz.func38,Tryz.ntmps38
 generalize hB0:w.heap.size=B0 at hF
 have hwB:w.heap.size≤B0:=by omega
 go_wp2_with fail
 go_loopw [10] (fun i wr=>∃ k:Nat,k≤l.length∧i=.int .i64 k∧Q w wr∧Lib.IsBuilder 98 5 B0 B0 (Lib.byteCells (textF (l.take k))) wr) (fun i _=>l.length - (intOf i).toNat)
 case atStart=>exact ⟨0,by omega,rfl,bt,hF⟩
 case round =>
  clear hF
  obtain ⟨k,hk,rfl,hQ,hW⟩:=hrel
  have hBl:B0<wr.heap.size:=hW.elim (fun x=>x.lt) (fun x=>x.lt)
  by_cases hlt:k<l.length
  ·obtain ⟨b,o,a2,c2,rfl,hb,hn,e0,e1,e2,e3⟩:=(HV.out _ hQ).cellsAt hlt
   obtain ⟨hpk,hm5⟩:=HO.out k hlt
   have HTk:=LH (HT.out k hlt)
   have hB:=HB.out k
   have hkz:(k:Int)<l.length:=by omega
   have hk0:(0:Int)≤k:=by omega
   clear HV HO HT HB HL
   generalize ctAt l k=x at *
   have hxm0:=hpk.some
   obtain ⟨b2,o2,he2,hb2,-⟩:=hn.cell.2 0 hxm0
   subst he2
   have HN2:Hid (∀ j,j<x.ms.length→wr.cell? ⟨b2,o2+j,none⟩=some (.int .i64 (atI x.ms j))):=LH (fun j hj=>by
    obtain ⟨b3,o3,he,-,hc⟩:=hn.cell.2 j hj
    injection he with he
    injection he with q1 q2
    subst q1 q2
    exact hc)
   have HNu:Hid (∀ j,j<3+x.ms.length→0≤atI (numF x) j∧atI (numF x) j<10000000):=LH (fun j hj=>by
    have hl:j<(numF x).length:=by unfold numF; simp only [List.length_cons]; omega
    rw [atI_get hl]
    exact hpk.nums _ (List.getElem_mem hl))
   have HTK:Hid (∀ j,j<3+x.ms.length→(numF x).take (j+1)=(numF x).take j++[atI (numF x) j]):=LH (fun j hj=>take_at (by unfold numF; simp only [List.length_cons]; omega))
   have HJL:Hid (∀ j,(joinF ((numF x).take j)).length≤4200):=LH (fun j=>by
    have h:=joinF_len ((numF x).take j) (fun z hz=>hpk.nums z (List.mem_of_mem_take hz))
    rw [List.length_take] at h
    have h3:(numF x).length=x.ms.length+3:=rfl
    omega)
   have HLn:Hid ((numF x).length=3+x.ms.length):=LH (by show x.ms.length+3=_; omega)
   have HNC:Hid (numC (numF x)=[.int .i64 x.w,.int .i64 x.d,.int .i64 x.n]++numC x.ms):=LH rfl
   clear hn hpk
   obtain ⟨x1,x2,x3,xm⟩:=x
   simp only at e0 e1 e2 e3 hm5 hxm0 HN2 HNu HTK HJL HLn HNC HTk
   generalize numF ⟨x1,x2,x3,xm⟩=L at *
   have hxm5:(xm.length:Int)≤512:=by omega
   have hwr:=hQ.size
   have hq2:Q wr ((wr.alloc (.cells #[.int .i64 x1,.int .i64 x2,.int .i64 x3,.slice (some ⟨b2,o2,none⟩) xm.length c2] 42)).alloc (.cells #[.int .i64 x1,.int .i64 x2,.int .i64 x3] 3)):=bt
   have hs2:(((wr.alloc (.cells #[.int .i64 x1,.int .i64 x2,.int .i64 x3,.slice (some ⟨b2,o2,none⟩) xm.length c2] 42)).alloc (.cells #[.int .i64 x1,.int .i64 x2,.int .i64 x3] 3))).heap.size=wr.heap.size+2:=by simp
   have B3:Blk ((wr.alloc (.cells #[.int .i64 x1,.int .i64 x2,.int .i64 x3,.slice (some ⟨b2,o2,none⟩) xm.length c2] 42)).alloc (.cells #[.int .i64 x1,.int .i64 x2,.int .i64 x3] 3)) (wr.heap.size+1) [.int .i64 x1,.int .i64 x2,.int .i64 x3] 3:=Blk.new1 wr _ _ _
   have how:(((wr.alloc (.cells #[.int .i64 x1,.int .i64 x2,.int .i64 x3,.slice (some ⟨b2,o2,none⟩) xm.length c2] 42)).alloc (.cells #[.int .i64 x1,.int .i64 x2,.int .i64 x3] 3))).ownsRow wr.heap.size 3 1 (.slice (some ⟨wr.heap.size+1,0,none⟩) 3 3) 3 [.int .i64 x1,.int .i64 x2,.int .i64 x3]:=⟨rfl,.inr ⟨wr.heap.size+1,3,_,rfl,by omega,B3,Nat.le_refl _,by unfold maxLen; omega,rfl,rfl⟩⟩
   go_wp2_with (at_builtin; refine wpList_append_own_at _ rfl (.tmp 20) (.tmp 22) 40 rfl wr.heap.size 3 i0 _ 1 8 Tryz.underlying40 ci cz0 cz1 cz2 rfl (by decide) _ 3 [.int .i64 x1,.int .i64 x2,.int .i64 x3] rfl how ⟨b2,o2,none⟩ xm.length c2 (numC xm) rfl ?qe1 ?qe2 ?qe3 ?qe4 ?qe5 ?qe6 ?_)
   case qe1=>unfold numC; rw [List.length_map,Nat.mul_one]
   case qe2 =>
    intro j u hj
    rw [Addr.add_lit]
    have hjl:j<xm.length:=by have:=(List.getElem?_eq_some_iff.1 hj).1; unfold numC at this; rwa [List.length_map] at this
    refine (qcell hq2 (HN2.out j hjl)).trans ?_
    rw [← hj]
    unfold numC
    rw [List.getElem?_map,List.getElem?_eq_getElem hjl,atI_get hjl]; rfl
   case qe3 =>
    intro z hz
    obtain ⟨y,-,rfl⟩:=List.mem_map.1 hz
    rfl
   case qe4=>unfold maxLen; omega
   case qe5=>omega
   case qe6=>rw [hs2]; omega
   intro o' w6 hown6 hgrow6 _ hloc
   have hlt6:=fun k hk=>(how.lt k hk).1
   have hq6:Q wr w6:=Below.trans hq2 ((Below.refl _ _).grown hgrow6 (by rw [hs2]; omega) hlt6)
   have hW6:=isBuilder_keep hW hq6
   have hQ6:=Q.trans hQ hq6
   replace hown6:w6.ownsRow wr.heap.size 3 1 o' (3+xm.length) (numC L):=by rw [HNC.out]; exact hown6
   rcases id hown6.2 with ⟨-,h0⟩ | ⟨g,gc,cur,rfl,hg,hblk,hle,hmx,hsz,htk⟩
   ·omega
   have HG:Hid (∀ W:World,W.heap[g]? = some (.cells cur 3 (0,0))→∀ j,j<3+xm.length→W.cell? ⟨g,j,none⟩=some (.int .i64 (atI L j))):=LH (fun W hW=>num_cells (B:=wr.heap.size) (gc:=gc) HLn.out ⟨hown6.1,.inr ⟨g,gc,cur,rfl,hg,hW,hle,hmx,hsz,htk⟩⟩)
   have hgB:g≠B0:=by omega
   have hw0:=hQ6.size
   generalize textF (l.take k)=T0 at *
   clear hown6 hgrow6 how B3 hlt6 hq6 hq2 hs2 hloc hle hmx hsz htk hg HN2 HNC e0 e1 e2 e3 hb hb2 hW hQ hwr
   generalize hn3:3+xm.length=n at *
   have hn5:n≤600:=by omega
   have hnz:(n:Int)≤600:=by omega
   go_wp2_with fail
   go_loopw [25] (fun i wl=>∃ m:Nat,m≤n∧i=.int .i64 m∧Lib.IsBuilder 98 5 B0 B0 (Lib.byteCells (T0++joinF (L.take m))) wl∧wl.heap[g]? = some (.cells cur 3 (0,0))∧Q w wl) (fun i _=>n - (intOf i).toNat)
   case atStart=>exact ⟨0,by omega,rfl,by rw [show T0++joinF (L.take 0)=T0 by simp [joinF]]; exact hW6,hblk,hQ6⟩
   case round =>
    clear hW6 hblk hQ6
    obtain ⟨m,hm,rfl,hW,hblk,hQ⟩:=hrel
    have hBl:B0<wr.heap.size:=hW.elim (fun x=>x.lt) (fun x=>x.lt)
    by_cases hlm:m<n
    ·have c0:=HG.out wr hblk m hlm
     obtain ⟨hz0,hz1⟩:=HNu.out m hlm
     have HK:=LH (HTK.out m hlm)
     have hJ:=HJL.out m
     have hmz:(m:Int)<n:=by omega
     have hm0:(0:Int)≤m:=by omega
     clear HG HNu HTK HJL
     generalize atI L m=z at *
     have hil:=itoa_six hz0 hz1
     have HI:=LH (fun W (hW:Q w W)=>lib_Itoa z (by omega) (by omega) W (hE.q hW))
     have HS:Hid (∀ (bs:Str) W,bs.length≤3000000→Lib.IsBuilder 98 5 B0 B0 (Lib.byteCells bs) W→B0≤W.heap.size→Calls Tryz.prog 56 #[.pointer (some ⟨B0,0,none⟩),.string ⟨(Lib.itoa z).toArray⟩] W fun e w'=>e=.returned (.tuple #[.int .i64 ((⟨(Lib.itoa z).toArray⟩:ByteArray).size),.nilIface])∧Lib.BuilderAt 98 5 B0 B0 (.pointer (some ⟨B0,0,none⟩)) (Lib.byteCells bs++Lib.strCells ⟨(Lib.itoa z).toArray⟩) w'∧Below B0 W w'∧Far W B0 w') :=
      LH (fun bs W hb hW hB=>builder_WriteString3 B0 B0 _ ⟨(Lib.itoa z).toArray⟩ W hW (by rw [Lib.byteCells_length]; have:(⟨(Lib.itoa z).toArray⟩:ByteArray).size=(Lib.itoa z).length:=rfl; omega) hB)
     by_cases h0:m=0
     ·have hJ2:Hid (T0++joinF (L.take (m+1))=(T0++joinF (L.take m))++Lib.itoa z):=LH (by rw [HK.out,joinF_snoc,h0,List.take_zero,if_pos rfl]; simp [joinF])
      have hd:decide ((0:Int)<m)=false:=by simp; omega
      have hd2:¬ (0:Int)<m:=by omega
      clear h0 HK
      go_wp2_with fail
      refine (HI.out _ hQ).mono ?_
      rintro e w7 ⟨rfl,hq7⟩
      have hW7:=isBuilder_keep hW hq7
      have hblk7:=(hq7.block g (Array.getElem?_eq_some_iff.1 hblk).1).trans hblk
      have hQ7:=Q.trans hQ hq7
      have hB7:B0≤w7.heap.size:=by have:=hq7.size; omega
      clear HI hW hblk hQ hq7
      go_wp2_with fail
      refine (HS.out (T0++joinF (L.take m)) w7 (by rw [List.length_append]; omega) hW7 hB7).mono ?_
      rintro e w8 ⟨rfl,hA8,hb8,hF8⟩
      have hblk8:=far_cells hF8 hblk7 hgB (by decide)
      have hQ8:Q w w8:=Below.trans hQ7 (hb8.mono hwB)
      have hB8:Lib.IsBuilder 98 5 B0 B0 (Lib.byteCells (T0++joinF (L.take (m+1)))) w8:=.inr (by rw [hJ2.out,byteCells_str]; exact hA8)
      clear HS hJ2 hA8 hb8 hF8 hW7 hblk7 hQ7
      go_wp2
      go_roundw
      case rel=>exact ⟨m+1,by omega,by go_num,hB8,hblk8,hQ8⟩
      case measure=>simp [intOf]; omega
     ·have hd:decide ((0:Int)<m)=true:=by simp; omega
      have hm1:(0:Int)<m:=by omega
      have hne:L.take m≠[]:=by
       intro e
       have h1:=congrArg List.length e
       rw [List.length_take,HLn.out,List.length_nil] at h1
       omega
      have hJ2:Hid (T0++joinF (L.take (m+1))=((T0++joinF (L.take m))++[32])++Lib.itoa z):=LH (by rw [HK.out,joinF_snoc,if_neg hne]; simp)
      clear hne HK
      have HWB:=LH (builder_WriteByte3 B0 B0 (Lib.byteCells (T0++joinF (L.take m))) 32 wr hW (by rw [Lib.byteCells_length,List.length_append]; omega) (Nat.le_of_lt hBl))
      go_wp2_with fail
      refine HWB.out.mono ?_
      rintro e w6 ⟨rfl,hA6,hb6,hF6⟩
      have hW6:Lib.IsBuilder 98 5 B0 B0 (Lib.byteCells ((T0++joinF (L.take m))++[32])) w6:=.inr (by rw [Lib.byteCells_append]; exact hA6)
      have hblk6:=far_cells hF6 hblk hgB (by decide)
      have hQ6:Q w w6:=Below.trans hQ (hb6.mono hwB)
      have hB6:B0≤w6.heap.size:=Nat.le_trans (Nat.le_of_lt hBl) hF6.1
      clear HWB hA6 hb6 hF6 hW hblk hQ
      go_wp2_with fail
      refine (HI.out _ hQ6).mono ?_
      rintro e w7 ⟨rfl,hq7⟩
      have hW7:=isBuilder_keep hW6 hq7
      have hblk7:=(hq7.block g (Array.getElem?_eq_some_iff.1 hblk6).1).trans hblk6
      have hQ7:=Q.trans hQ6 hq7
      have hB7:B0≤w7.heap.size:=by have:=hq7.size; omega
      clear HI hW6 hblk6 hQ6 hq7
      go_wp2_with fail
      refine (HS.out ((T0++joinF (L.take m))++[32]) w7 (by rw [List.length_append,List.length_append,List.length_singleton]; omega) hW7 hB7).mono ?_
      rintro e w8 ⟨rfl,hA8,hb8,hF8⟩
      have hblk8:=far_cells hF8 hblk7 hgB (by decide)
      have hQ8:Q w w8:=Below.trans hQ7 (hb8.mono hwB)
      have hB8:Lib.IsBuilder 98 5 B0 B0 (Lib.byteCells (T0++joinF (L.take (m+1)))) w8:=.inr (by rw [hJ2.out,byteCells_str]; exact hA8)
      clear HS hJ2 hA8 hb8 hF8 hW7 hblk7 hQ7
      go_wp2
      go_roundw
      case rel=>exact ⟨m+1,by omega,by go_num,hB8,hblk8,hQ8⟩
      case measure=>simp [intOf]; omega
    ·obtain rfl:m=n:=by omega
     have hJ:=HJL.out m
     have hLt:L.take m=L:=by rw [← HLn.out]; exact List.take_length
     have HWB:=LH (builder_WriteByte3 B0 B0 (Lib.byteCells (T0++joinF (L.take m))) 10 wr hW (by rw [Lib.byteCells_length,List.length_append]; omega) (Nat.le_of_lt hBl))
     rw [hLt] at HWB
     clear HG HNu HTK HJL hLt
     go_wp2_with fail
     refine HWB.out.mono ?_
     rintro e w6 ⟨rfl,hA6,hb6,hF6⟩
     have hW6:Lib.IsBuilder 98 5 B0 B0 (Lib.byteCells (textF (l.take (k+1)))) w6:=.inr (by rw [HTk.out,← List.append_assoc,Lib.byteCells_append]; exact hA6)
     have hQ6:Q w w6:=Below.trans hQ (hb6.mono hwB)
     clear HWB hA6 hb6 hF6 hW hblk hQ HTk HLn
     go_wp2
     go_roundw
     case rel=>exact ⟨k+1,by omega,by go_num,hQ6,hW6⟩
     case measure=>simp [intOf]; omega
  ·obtain rfl:k=l.length:=by omega
   rw [HL.out] at hW
   clear HV HO HT HB HL
   go_wp2_with fail
   refine (Tryz.Builder_String_any B0 B0 (textF l) _ hW (Nat.le_of_lt hBl)).mono ?_
   rintro e w3 ⟨rfl,hq3⟩
   go_wp2
   go_ret
   exact ⟨rfl,Below.trans hQ (hq3.mono hwB)⟩
end
section
open Go.RowKit Go Kp
theorem lib_Index (c:UInt8) (s:Str) (hs:s.length<4294967281) (w:World) (hE:Env w) :
  Calls Tryz.prog 114 #[.string ⟨s.toArray⟩,.string ⟨#[c]⟩] w fun e w'=>e=.returned (.int .i64 (if has c s=true then ((bef c s).length:Int) else -1))∧Q w w':=by
 obtain ⟨m,hm⟩:=hE.maxlen
 refine (Tryz.strings_Index ⟨s.toArray⟩ ⟨#[c]⟩ m w hs hm).mono ?_
 rintro e w' ⟨rfl,rfl⟩
 refine ⟨?_,Below.refl _ _⟩
 obtain ⟨h1,h2⟩:=index_one s c
 cases hb:has c s with
 | true =>
  have h:c∈s:=by simpa [has] using hb
  rw [if_pos rfl]
  show Ending.returned (.int .i64 (Go.Lib.index s [c]))=_
  rw [h1 h]; rfl
 | false =>
  have h:¬ c∈s:=by simpa [has] using hb
  rw [if_neg (by decide)]
  show Ending.returned (.int .i64 (Go.Lib.index s [c]))=_
  rw [h2 h]
theorem takeS_bef {c:UInt8} {s:Str} (h:has c s=true):takeS s (bef c s).length=bef c s:=by
 have e:=app_has s h
 conv=>lhs; arg 1; rw [e]
 unfold takeS; exact List.take_left
theorem dropS_aft {c:UInt8} {s:Str} (h:has c s=true):dropS s ((bef c s).length+1)=aft c s:=by
 have e:=app_has s h
 have:(bef c s++[c])++aft c s=s:=by rw [List.append_assoc,List.singleton_append]; exact e.symm
 conv=>lhs; arg 1; rw [← this]
 unfold dropS
 rw [show (bef c s).length+1=(bef c s++[c]).length by simp]
 exact List.drop_left
abbrev StrAt (W:World) (b:Nat) (s:Str):Prop:=Boxed W b 9 (.string ⟨s.toArray⟩)
def cellLen (W:World) (b:Nat):Nat:=match W.cell? ⟨b,0,none⟩ with
 | some (.string s)=>s.size
 | _=>0
theorem cellLen_of {W:World} {b:Nat} {s:Str} (h:StrAt W b s):cellLen W b=s.length:=by
 unfold cellLen; rw [Boxed.cell h]; rfl
def encW (s:Str):Array Value:=#[.string ⟨s.toArray⟩]
def nxW (s pre:List Str) (x:Str):Prop:=∃ post,s=pre++x::post
set_option maxRecDepth 100000 in
set_option maxHeartbeats 2000000 in
theorem split1_nx (d:Nat) (hd:1≤d) (l Bs Bp Bv:Nat) (hne1:Bs≠Bp) (hne2:Bs≠Bv) (s:Str) (hs:s.length≤100000) (J Jx:List Str→World→Prop)
  (hPc:∀ pre W,J pre W→Env W) (hJ:JStays [Bs,Bp,Bv] J)
  (hY:∀ pre x W,J pre W→nxW (sepAll 32 s) pre x→YieldAt Fence.wide (d - 1) Tryz.prog l (encW x) W fun e W' =>
   (e=.returned (.bool true)∧J (pre++[x]) W'∧KeepB [Bs,Bp,Bv] W W')∨(e=.returned (.bool false)∧Jx (pre++[x]) W'))
  (W:World) (hBs:StrAt W Bs s) (hBp:StrAt W Bp [32]) (hBv:Boxed W Bv 3 (.int .i64 0)) (h0:J [] W) :
  CallsIn Fence.wide d Tryz.prog 112 #[.func (.yield l) #[] #[],.pointer (some ⟨Bp,0,none⟩),.pointer (some ⟨Bs,0,none⟩),.pointer (some ⟨Bv,0,none⟩)] W fun e W'=>(∃ v,e=.returned v) ∧
   ((∃ ys,ys=sepAll 32 s∧J ys W')∨(∃ pre,True∧Jx pre W')):=by
 refine callsIn_of_wp Tryz.func112 rfl trivial ?_ rfl
 simp only [Tryz.ntmps112,List.size_toArray,List.length_cons,List.length_nil,Nat.reduceAdd,Nat.reduceSub,Array.replicate_succ,Array.replicate_zero,List.push_toArray,List.append_toArray,List.nil_append,List.cons_append]
 have hcp:=hBp.cell
 gi_wp2
 gi_loopw [7] (fun _ wr=>∃ pre r,J pre wr∧StrAt wr Bs r∧StrAt wr Bp [32]∧Boxed wr Bv 3 (.int .i64 0)∧Hid (sepAll 32 s=pre++sepAll 32 r)∧Hid (r.length≤100000)) (fun _ wr=>cellLen wr Bs)
 case atStart=>exact ⟨[],s,h0,hBs,hBp,hBv,LH rfl,LH hs⟩
 case round =>
  clear h0 hBs hBp hBv hcp
  obtain ⟨pre,r,hJp,hS,hP,hV,HS,HR⟩:=hrel
  have hc1:=hS.cell
  have hc2:=hP.cell
  have hc3:=hV.cell
  have hrl:=HR.out
  have HI:=LH (lib_Index 32 r (by omega) wr (hPc _ _ hJp))
  have hlen:=cellLen_of hS
  by_cases hh:has 32 r=true
  ·rw [if_pos hh] at HI
   have HB:=LH (takeS_bef hh)
   have HA:=LH (dropS_aft hh)
   have hlt:=aft_lt r hh
   have hbl:(bef 32 r).length<r.length:=by
    have:=congrArg List.length (app_has r hh)
    simp only [List.length_append,List.length_cons] at this; omega
   have HX:=LH (sepAll_yes hh)
   have HXs:Hid (nxW (sepAll 32 s) pre (bef 32 r)):=LH ⟨sepAll 32 (aft 32 r),by rw [HS.out,HX.out]⟩
   have HS2:Hid (sepAll 32 s=(pre++[bef 32 r])++sepAll 32 (aft 32 r)):=LH (by rw [HS.out,HX.out,List.append_assoc]; rfl)
   clear HX HS hh
   generalize aft 32 r=r2 at *
   generalize hnn:(bef 32 r).length=n at *
   generalize bef 32 r=x at *
   clear hnn
   have hnz:(n:Int)<r.length:=by omega
   have hn0:(0:Int)≤n:=by omega
   have hrz:(r.length:Int)≤100000:=by omega
   have hw0:IntKind.i64.wrap (n:Int)=n:=Go.IntWalk.i64_in _ (by omega)
   have hw1:IntKind.i64.wrap ((n:Int)+1)=(n:Int)+1:=Go.IntWalk.i64_in _ (by omega)
   gi_wp2
   refine ⟨trivial,(callsIn_wide.2 HI.out).mono ?_⟩
   rintro e w1 ⟨rfl,hq1⟩
   have hJ1:=hJ.q _ _ _ hJp hq1
   have S1:StrAt w1 Bs r:=(hq1.block _ (Array.getElem?_eq_some_iff.1 hS).1).trans hS
   have P1:StrAt w1 Bp [32]:=(hq1.block _ (Array.getElem?_eq_some_iff.1 hP).1).trans hP
   have V1:Boxed w1 Bv 3 (.int .i64 0):=(hq1.block _ (Array.getElem?_eq_some_iff.1 hV).1).trans hV
   have d1:=S1.cell
   have d2:=P1.cell
   have d3:=V1.cell
   have hYk:=hY pre x _ hJ1 HXs.out
   obtain ⟨fn,tmps,assign,body,hy,hR⟩:=hYk
   simp only [encW] at hy
   have hB:=HB.out
   clear HI hJp hS hP hV hq1 HXs hc1 hc2 hc3
   gi_wp2
   refine hR.mono ?_
   rintro e W3 (⟨rfl,hJ4,hk4⟩ | ⟨rfl,hJx4⟩)
   ·have S4:StrAt W3 Bs r:=(hk4 Bs (by simp) (Array.getElem?_eq_some_iff.1 S1).1).trans S1
    have P4:StrAt W3 Bp [32]:=(hk4 Bp (by simp) (Array.getElem?_eq_some_iff.1 P1).1).trans P1
    have V4:Boxed W3 Bv 3 (.int .i64 0):=(hk4 Bv (by simp) (Array.getElem?_eq_some_iff.1 V1).1).trans V1
    have c1:=S4.cell
    have c2:=P4.cell
    have c3:=V4.cell
    have f1:=S4.frozen
    have S5:StrAt (W3.setCell ⟨Bs,0,none⟩ (.string ⟨r2.toArray⟩)) Bs r2:=S4.set _
    have P5:StrAt (W3.setCell ⟨Bs,0,none⟩ (.string ⟨r2.toArray⟩)) Bp [32]:=Blk.setOther (cs:=[_]) P4 hne1 0 _
    have V5:Boxed (W3.setCell ⟨Bs,0,none⟩ (.string ⟨r2.toArray⟩)) Bv 3 (.int .i64 0):=Blk.setOther (cs:=[_]) V4 hne2 0 _
    have hJ5:=hJ.set _ _ Bs (.string ⟨r2.toArray⟩) (by simp) hJ4
    have hl5:=cellLen_of S5
    have hA:=HA.out
    clear d1 d2 d3 hB HB S1 P1 V1 hJ1 hJ4 hk4
    gi_wp2
    go_roundw
    case rel=>exact ⟨_,r2,hJ5,S5,P5,V5,HS2,LH (by omega)⟩
    case measure=>rw [hlen,hl5]; exact hlt
   ·gi_wp2
    refine bodyPost_ret (results_none rfl _ _ _) rfl ?_
    exact ⟨⟨_,rfl⟩,.inr ⟨_,trivial,hJx4⟩⟩
  ·have hh2:has 32 r=false:=by simpa using hh
   rw [if_neg hh] at HI
   have HX:=LH (sepAll_no hh2)
   have HXs:Hid (nxW (sepAll 32 s) pre r):=LH ⟨[],by rw [HS.out,HX.out]⟩
   have HS2:Hid (sepAll 32 s=pre++[r]):=LH (by rw [HS.out,HX.out])
   clear HX HS hh hh2
   gi_wp2
   refine ⟨trivial,(callsIn_wide.2 HI.out).mono ?_⟩
   rintro e w1 ⟨rfl,hq1⟩
   have hJ1:=hJ.q _ _ _ hJp hq1
   have S1:StrAt w1 Bs r:=(hq1.block _ (Array.getElem?_eq_some_iff.1 hS).1).trans hS
   have d1:=S1.cell
   have hYk:=hY pre r _ hJ1 HXs.out
   obtain ⟨fn,tmps,assign,body,hy,hR⟩:=hYk
   simp only [encW] at hy
   clear HI hJp hS hP hV hq1 HXs hc1 hc2 hc3
   gi_wp2
   refine hR.mono ?_
   rintro e W3 (⟨rfl,hJ4,hk4⟩ | ⟨rfl,hJx4⟩)
   ·gi_wp2
    go_end0
    exact ⟨⟨_,rfl⟩,.inl ⟨_,HS2.out.symm,hJ4⟩⟩
   ·gi_wp2
    go_end0
    exact ⟨⟨_,rfl⟩,.inr ⟨_,trivial,hJx4⟩⟩
theorem split_next (Bs Bp Bv:Nat) (hne1:Bs≠Bp) (hne2:Bs≠Bv) (s:Str) (hs:s.length≤100000) (w:World) (d:Nat) (hd:1≤d) (hBs:StrAt w Bs s) (hBp:StrAt w Bp [32]) (hBv:Boxed w Bv 3 (.int .i64 0)) :
  SeqNext2 d Tryz.prog 112 #[.pointer (some ⟨Bp,0,none⟩),.pointer (some ⟨Bs,0,none⟩),.pointer (some ⟨Bv,0,none⟩)] encW [Bs,Bp,Bv] (fun _ W=>Env W) (nxW (sepAll 32 s)) (fun ys=>ys=sepAll 32 s) (fun _=>True) w:=fun l J Jx W hW hPc hJ hY h0 =>
 split1_nx d hd l Bs Bp Bv hne1 hne2 s hs J Jx hPc hJ hY W ((hW.block _ (Array.getElem?_eq_some_iff.1 hBs).1).trans hBs) ((hW.block _ (Array.getElem?_eq_some_iff.1 hBp).1).trans hBp) ((hW.block _ (Array.getElem?_eq_some_iff.1 hBv).1).trans hBv) h0
def splitW (w:World) (s:Str):World:=((w.alloc (.cells #[.string ⟨s.toArray⟩] 9)).alloc (.cells #[.string ⟨#[32]⟩] 9)).alloc (.cells #[.int .i64 0] 3)
theorem lib_splitSeq (s:Str) (w:World) :
  Calls Tryz.prog 84 #[.string ⟨s.toArray⟩,.string ⟨#[32]⟩,.int .i64 0] w fun e w'=>e=.returned (.func (.func 112) #[] #[.pointer (some ⟨w.heap.size+1,0,none⟩),.pointer (some ⟨w.heap.size,0,none⟩),.pointer (some ⟨w.heap.size+2,0,none⟩)])∧w'=splitW w s:=by
 unfold splitW
 go_enter Tryz.func84,Tryz.ntmps84
 go_wp2
 go_ret
 exact ⟨rfl,rfl⟩
theorem lib_SplitSeq (s:Str) (w:World) :
  Calls Tryz.prog 60 #[.string ⟨s.toArray⟩,.string ⟨#[32]⟩] w fun e w'=>e=.returned (.func (.func 112) #[] #[.pointer (some ⟨w.heap.size+1,0,none⟩),.pointer (some ⟨w.heap.size,0,none⟩),.pointer (some ⟨w.heap.size+2,0,none⟩)])∧w'=splitW w s:=by
 have H:=LH (lib_splitSeq s w)
 go_enter Tryz.func60,Tryz.ntmps60
 go_wp2_with fail
 refine H.out.mono ?_
 rintro e w1 ⟨rfl,rfl⟩
 go_wp2
 go_ret
 exact ⟨rfl,rfl⟩
theorem cut_Atoi (s:Str) (hs:s.length≤100000) (w:World) (hE:Env w) :
  Calls Tryz.prog 61 #[.string ⟨s.toArray⟩] w fun e w'=>Q w w'∧((∃ z,e=.returned (.tuple #[.int .i64 z,.nilIface])∧atoV s=some z)∨(∃ z T p,e=.returned (.tuple #[.int .i64 z,.iface T p])∧atoV s=none)):=by
 obtain ⟨t1,p1,h1⟩:=hE.errSyntax
 obtain ⟨t2,p2,h2⟩:=hE.errRange
 rcases hx:Lib.atoiAll s with v | _ | _
 ·refine (Tryz.strconv_Atoi_ok ⟨s.toArray⟩ (by show s.length≤_; omega) v (by simpa using hx) w).mono ?_
  rintro e w' ⟨rfl,rfl | ⟨t,rfl⟩⟩
  ·exact ⟨Below.refl _ _,.inl ⟨v,rfl,by unfold atoV; rw [hx]⟩⟩
  ·exact ⟨Joins.below_bytesWorld _ _ _ _ (Nat.le_refl _),.inl ⟨v,rfl,by unfold atoV; rw [hx]⟩⟩
 ·refine (Any.strconv_Atoi_syntax_var Tryz.laysC172 ⟨s.toArray⟩ (by show s.length≤_; omega) (by simpa using hx) t1 p1 w h1).mono ?_
  rintro e w' ⟨N,rfl,_,_,hb⟩
  exact ⟨hb,.inr ⟨_,_,_,rfl,by unfold atoV; rw [hx]⟩⟩
 ·refine (Any.strconv_Atoi_range_var Tryz.laysC172 ⟨s.toArray⟩ (by show s.length≤_; omega) (by simpa using hx) t2 p2 w h2).mono ?_
  rintro e w' ⟨N,rfl,_,_,hb⟩
  exact ⟨hb,.inr ⟨_,_,_,rfl,by unfold atoV; rw [hx]⟩⟩
end
section
open Go.RowKit Go Kp
attribute [local go_sem] Oper.semAt_some
theorem results_line {W:World} {b c:Nat} {x y z u v:Value} (h:Blk W b [x,y,z,u] 42) (hc:W.cell? ⟨c,0,none⟩=some v) (fn:Func) (hf:fn.results=#[.cell 2 42,.cell 3 4]) (tmps:Array Value)
  (hp:tmps.getD 2 undef=.pointer (some ⟨b,0,none⟩)) (hp3:tmps.getD 3 undef=.pointer (some ⟨c,0,none⟩)) :
  (results fn tmps).run Tryz.prog W=.ok (.tuple #[.agg #[x,y,z,u],v]) W:=by
 have c0:=h.cell 0
 have c1:=h.cell 1
 have c2:=h.cell 2
 have c3:=h.cell 3
 simp only [zs4,zs5] at c0 c1 c2 c3
 simp only [Array.getD_eq_getD_getElem?] at hp hp3
 simp [results,hf,hp,hp3,go_sem,hc,c0,c1,c2,c3]
theorem alloc_k {w:World} {o o':Obj} {k:Nat} (h:w.heap[k]? = some o):(w.alloc o').heap[k]? = some o:=(Below.heap_alloc _ _ _ (Array.getElem?_eq_some_iff.1 h).1).trans h
theorem alloc_n (w:World) (o:Obj) (n:Nat) (h:w.heap.size=n):(w.alloc o).heap[n]? = some o:=h ▸ World.alloc_heap_new w o
theorem six_allocs (w:World) (o0 o1 o2 o3 o4 o5:Obj):(((((((w.alloc o0).alloc o1).alloc o2).alloc o3).alloc o4).alloc o5).heap[w.heap.size]? = some o0∧((((((w.alloc o0).alloc o1).alloc o2).alloc o3).alloc o4).alloc o5).heap[w.heap.size+1]? = some o1 ∧
  ((((((w.alloc o0).alloc o1).alloc o2).alloc o3).alloc o4).alloc o5).heap[w.heap.size+2]? = some o2∧((((((w.alloc o0).alloc o1).alloc o2).alloc o3).alloc o4).alloc o5).heap[w.heap.size+3]? = some o3 ∧
  ((((((w.alloc o0).alloc o1).alloc o2).alloc o3).alloc o4).alloc o5).heap[w.heap.size+4]? = some o4∧((((((w.alloc o0).alloc o1).alloc o2).alloc o3).alloc o4).alloc o5).heap[w.heap.size+5]? = some o5):=by
 exact ⟨alloc_k (alloc_k (alloc_k (alloc_k (alloc_k (alloc_n _ _ _ rfl))))),alloc_k (alloc_k (alloc_k (alloc_k (alloc_n _ _ _ (by simp))))),alloc_k (alloc_k (alloc_k (alloc_n _ _ _ (by simp)))),alloc_k (alloc_k (alloc_n _ _ _ (by simp))),alloc_k (alloc_n _ _ _ (by simp)),alloc_n _ _ _ (by simp)⟩
theorem num_drop {W:World} {g gc n B:Nat} {L:List Int} (hL:L.length=n) (h:W.ownsRow B 3 1 (.slice (some ⟨g,0,none⟩) n gc) n (numC L)):NumSl W (.slice (some ⟨g,3,none⟩) (n - 3) (gc - 3)) (L.drop 3):=by
 have hc:=num_cells hL h
 refine ⟨_,_,by rw [List.length_drop,hL],fun i hi=>?_⟩
 rw [List.length_drop] at hi
 have h1:=hc (3+i) (by omega)
 refine ⟨g,3,rfl,World.block_lt_of_cell? W _ h1,fun j u hu=>?_⟩
 obtain rfl:j=0:=by
  have:=(List.getElem?_eq_some_iff.1 hu).1
  simp at this; exact this
 rw [Nat.mul_one,Nat.add_zero,h1,← hu,atI_get (by omega),List.getElem_drop]; rfl
def NumO (w:World) (p:CV):Prop:=∃ (g:Nat) (cur:Array Value),w.heap[g]? = some (Obj.cells cur 3 (0,0))∧∀ W:World,W.heap[g]? = some (Obj.cells cur 3 (0,0))→NumSl W p.2 p.1.ms
theorem NumO.num {w:World} {p:CV} (h:NumO w p):NumSl w p.2 p.1.ms:=by
 obtain ⟨g,cur,h1,h2⟩:=h
 exact h2 _ h1
theorem NumO.q {w w':World} {p:CV} (h:NumO w p) (hq:Q w w'):NumO w' p:=by
 obtain ⟨g,cur,h1,h2⟩:=h
 exact ⟨g,cur,(hq.block _ (Array.getElem?_eq_some_iff.1 h1).1).trans h1,h2⟩
theorem NumO.grown {w w':World} {p:CV} {B n:Nat} {o:Value} {xs:List Value} (h:NumO w p) (ho:w.ownsRow B 42 4 o n xs) (hg:w.grownBy w' o.ownBlock):NumO w' p:=by
 obtain ⟨g,cur,h1,h2⟩:=h
 refine ⟨g,cur,(hg.block g (Array.getElem?_eq_some_iff.1 h1).1 (fun e=>?_)).trans h1,h2⟩
 rcases ho.2 with ⟨rfl,_⟩ | ⟨g',cap,cur',rfl,_,hc,_⟩
 ·cases e
 ·have:g=g':=Option.some.inj e
  subst this
  rw [h1] at hc
  injection hc with hc
  injection hc with _ hc _
  exact absurd hc (by decide)
theorem num_dropO {W:World} {g gc n B:Nat} {L:List Int} (hL:L.length=n) (h:W.ownsRow B 3 1 (.slice (some ⟨g,0,none⟩) n gc) n (numC L)) (x:Ct) (hx:x.ms=L.drop 3):NumO W (x,.slice (some ⟨g,3,none⟩) (n - 3) (gc - 3)):=by
 rcases h.2 with ⟨h0,_⟩ | ⟨g',gc',cur,he,hg,hc,r⟩
 ·cases h0
 ·injection he with e1 e2 e3
  injection e1 with e1
  injection e1 with e1
  subst e1 e3
  exact ⟨g,cur,hc,fun W' hW'=>by rw [show (x,Value.slice (some ⟨g,3,none⟩) (n - 3) (gc - 3)).1.ms=L.drop 3 from hx]; exact num_drop hL ⟨h.1,.inr ⟨g,gc,cur,rfl,hg,hW',r⟩⟩⟩
def LineRes (s:Str) (e:Ending) (W:World):Prop :=
 (lineV s=none∧e=.returned (.tuple #[.agg #[.int .i64 0,.int .i64 0,.int .i64 0,.slice none 0 0],.bool false])) ∨
 (∃ x u,lineV s=some x∧e=.returned (.tuple #[.agg (ctC x u).toArray,.bool true])∧NumO W (x,u))
theorem ownsRow_set {w:World} {base size n b i:Nat} {e:TypeId} {v x:Value} {xs:List Value} (h:w.ownsRow base e size v n xs) (hb:b<base):(w.setCell ⟨b,i,none⟩ x).ownsRow base e size v n xs:=by
 refine ⟨h.1,h.2.elim .inl ?_⟩
 rintro ⟨g,cap,cur,hv,hg,hc,r⟩
 refine .inr ⟨g,cap,cur,hv,hg,?_,r⟩
 have:¬ b=g:=by omega
 simpa [World.setCell,Array.getElem?_modify,this] using hc
set_option maxRecDepth 100000 in
set_option maxHeartbeats 4000000 in
theorem line_in (s:Str) (hs:s.length≤100000) (w:World) (hE:Env w) :
  CallsIn Fence.wide 9 Tryz.prog 40 #[.string ⟨s.toArray⟩] w fun e w'=>LineRes s e w'∧Q w w':=by
 obtain ⟨i0,ci,cz0,cz1,cz2⟩:=info_parts infoInt
 refine callsIn_of_wp_marks Tryz.func40 rfl trivial ?_ rfl
 simp only [Tryz.ntmps40,List.size_toArray,List.length_cons,List.length_nil,Nat.reduceAdd,Nat.reduceSub,Array.replicate_succ,Array.replicate_zero,List.push_toArray,List.append_toArray,List.nil_append,List.cons_append]
 refine wpIn_wide.2 ?_
 go_wp2_with fail
 refine (lib_SplitSeq s _).mono ?_
 rintro e w2 ⟨rfl,rfl⟩
 unfold splitW
 obtain ⟨g0,g1,g2,g3,g4,g5⟩:=six_allocs w (.cells #[.int .i64 0,.int .i64 0,.int .i64 0,.slice none 0 0] 42) (.cells #[.bool false] 4) (.cells #[.slice none 0 0] 40) (.cells #[.string ⟨s.toArray⟩] 9) (.cells #[.string ⟨#[32]⟩] 9) (.cells #[.int .i64 0] 3)
 obtain ⟨W2,hW2⟩:∃ W2,(((((w.alloc (.cells #[.int .i64 0,.int .i64 0,.int .i64 0,.slice none 0 0] 42)).alloc (.cells #[.bool false] 4)).alloc (.cells #[.slice none 0 0] 40)).alloc (.cells #[.string ⟨s.toArray⟩] 9)).alloc (.cells #[.string ⟨#[32]⟩] 9)).alloc (.cells #[.int .i64 0] 3)=W2:=⟨_,rfl⟩
 have hq2:Q w W2:=by rw [← hW2]; exact bt
 have hs2:W2.heap.size=w.heap.size+6:=by rw [← hW2]; simp
 have hs0:(((w.alloc (.cells #[.int .i64 0,.int .i64 0,.int .i64 0,.slice none 0 0] 42)).alloc (.cells #[.bool false] 4)).alloc (.cells #[.slice none 0 0] 40)).heap.size=w.heap.size+3:=by simp
 rw [hW2] at g0 g1 g2 g3 g4 g5
 rw [hs0,hW2]
 clear hW2 hs0
 have bR:Blk W2 w.heap.size [.int .i64 0,.int .i64 0,.int .i64 0,.slice none 0 0] 42:=g0
 have bB:Boxed W2 (w.heap.size+1) 4 (.bool false):=g1
 have bL:Boxed W2 (w.heap.size+2) 40 (.slice none 0 0):=g2
 have bS:StrAt W2 (w.heap.size+3) s:=g3
 have bP:StrAt W2 (w.heap.size+4) [32]:=g4
 have bV:Boxed W2 (w.heap.size+5) 3 (.int .i64 0):=g5
 clear g0 g1 g2 g3 g4 g5
 obtain ⟨R,hR⟩:∃ R,w.heap.size=R:=⟨_,rfl⟩
 have hwR:w.heap.size≤R:=by omega
 rw [hR] at bR bB bL bS bP bV hs2 ⊢
 simp only [Nat.add_assoc,Nat.reduceAdd]
 go_wp2_with fail
 refine (wpIn_wide (n:=9)).1 ?_
 refine wpIn_rangeFunc_next2 (m:=9) (gf:=112) (lb:=#[.pointer (some ⟨R+4,0,none⟩),.pointer (some ⟨R+3,0,none⟩),.pointer (some ⟨R+5,0,none⟩)]) (by omega) rfl (enters_of Tryz.func112 (by kernel_rfl) rfl)
  (split_next (R+3) (R+4) (R+5) (by omega) (by omega) s hs W2 8 (by omega) bS bP bV) (by simp; omega) (fun _=>rfl)
  (fun pre W=>∃ v vals,Blk W R [.int .i64 0,.int .i64 0,.int .i64 0,.slice none 0 0] 42∧Boxed W (R+1) 4 (.bool false)∧Boxed W (R+2) 40 v∧W.ownsRow (R+6) 3 1 v vals.length (numC vals)∧Hid (numsV pre=some vals)∧Q w W∧R+6≤W.heap.size)
  (fun c pre W=>c=.ret∧Blk W R [.int .i64 0,.int .i64 0,.int .i64 0,.slice none 0 0] 42∧Boxed W (R+1) 4 (.bool false)∧lineV s=none∧Q w W)
  (fun pre W h=>by obtain ⟨_,_,_,_,_,_,_,hQ,_⟩:=h; exact hE.q hQ)
  (fun pre W W' h k hb=>by
   obtain ⟨v,vals,h1,h2,h3,h4,h5,h7,h8⟩:=h
   exact ⟨v,vals,h1.kc k,boxed_kc h2 k,boxed_kc h3 k,ownsRow_kc h4 k,h5,Below.trans h7 (hb.mono hq2.size),Nat.le_trans h8 k.1⟩)
  ⟨fun pre W W' h hq=>by
   obtain ⟨v,vals,h1,h2,h3,h4,h5,h7,h8⟩:=h
   exact ⟨v,vals,h1.keep hq h1.lt,boxed_kc h2 (KC.q hq),boxed_kc h3 (KC.q hq),ownsRow_keep h4 hq,h5,Q.trans h7 hq,Nat.le_trans h8 hq.size⟩,
   fun pre W b x hb h=>by
   obtain ⟨v,vals,h1,h2,h3,h4,h5,h7,h8⟩:=h
   have hb3:R+3≤b∧b<R+6:=by
    simp only [List.mem_cons,List.not_mem_nil,or_false] at hb
    omega
   exact ⟨v,vals,h1.setOther (by omega) 0 x,Blk.setOther (cs:=[_]) h2 (by omega) 0 x,Blk.setOther (cs:=[_]) h3 (by omega) 0 x,ownsRow_set h4 (by omega),h5,h7.setCell (p:=⟨b,0,none⟩) (by simp; omega) x,by simp; omega⟩⟩
  (fun c pre W W' h k hb=>⟨h.1,h.2.1.kc k,boxed_kc h.2.2.1 k,h.2.2.2.1,Below.trans h.2.2.2.2 (hb.mono hq2.size)⟩)
  ⟨_,[],bR,bB,bL,World.ownsRow_nil _ _ _ _,LH rfl,hq2,by omega⟩
  ?a1 ?assign ?body ?done ?stop
 case assign =>
  intro l x W K hK
  unfold encW
  gi_wp2
  exact hK
 case stop =>
  rintro D c pre W hD _ ⟨rfl,hbR,hbB,hno,hQ⟩ hK
  gi_wp2
  have kc:=KC.put (.deferred none) hK rfl
  refine ⟨by simp,.inl ⟨_,_,rfl,run_takeDeferred hK,?_⟩⟩
  exact ⟨_,results_line (hbR.kc kc) (boxed_kc hbB kc).cell _ rfl _ rfl rfl,.inl ⟨hno,rfl⟩,Below.trans hQ (below_put (by omega) hK _)⟩
 case body =>
  rintro l pre x W ⟨v,vals,hbR,hbB,hbL,hrow,HN,hQ,hs6⟩ ⟨post,hpost⟩
  have hxl:x.length≤100000:=by
   have h:=sepAll_mem 32 _ s (Nat.le_refl _) x (by rw [hpost]; simp)
   omega
  have hpl:vals.length≤100000:=by
   have h:=sepAll_len 32 _ s (Nat.le_refl _)
   rw [hpost,List.length_append,List.length_cons] at h
   have h2:=numsV_len _ _ HN.out
   omega
  have HP:=LH hpost
  have HA:=LH (cut_Atoi x hxl W (hE.q hQ))
  have hcL:=hbL.cell
  clear hpost
  gi_wp2
  refine ⟨trivial,?_⟩
  with_reducible refine CallsIn.mono (CallsIn.inRound l (callsIn_wide.2 HA.out)) ?_
  rintro e w5 ⟨hq5,(⟨z,rfl,hz⟩ | ⟨z,T,p,rfl,hz⟩)⟩
  ·have HN2:Hid (numsV (pre++[x])=some (vals++[z])):=LH (by rw [numsV_snoc,HN.out,hz]; rfl)
   have R5:=hbR.keep hq5 hbR.lt
   have B5:=boxed_kc hbB (KC.q hq5)
   have L5:=boxed_kc hbL (KC.q hq5)
   have row5:=ownsRow_keep hrow hq5
   have hQ5:=Q.trans hQ hq5
   have hs5:R+6≤w5.heap.size:=by
    have h1:=hq5.size
    omega
   have c5:=L5.cell
   clear HA HN HP hcL hbR hbB hbL hrow hz hQ
   gi_wp2_with (gi_at_builtin; refine wpListIn_append_own_at _ rfl (.tmp 19) (.tmp 21) 40 rfl (R+6) 3 i0 _ 1 8 Tryz.underlying40 ci cz0 cz1 cz2 rfl (by decide) v vals.length (numC vals) rfl (row5.alloc _) ⟨w5.heap.size,0,none⟩ 1 1 [.int .i64 z] rfl rfl (cell_one_new _ _ _) (by simp [Value.oneCell']) (by unfold maxLen; omega) (by omega) (by simp; omega) ?_)
   intro v' w1 hown' hgrow _ _
   obtain ⟨g',cap',rfl⟩:=ownsRow_succ hown'
   have HNl:Hid ((vals++[z]).length=vals.length+1):=LH (by simp)
   generalize vals.length+1=n' at *
   have hlt5:=fun k hk=>(row5.lt k hk).1
   have hb1:Below (R+6) w5 w1:=((Below.refl _ _).alloc hs5 _).grown hgrow (by simp; omega) hlt5
   have ko:KeepsOthers w5 w1:=(KeepsOthers.alloc w5 _).trans (KeepsOthers.of_grownBy hgrow fun j o ej hj=>by
    rcases (row5.alloc _).2 with ⟨rfl,_⟩ | ⟨g,cap,cur,rfl,_,hgb,_⟩
    ·simp [Value.ownBlock] at ej
    ·obtain rfl:g=j:=by simpa [Value.ownBlock] using ej
     rw [hgb] at hj; cases hj; rfl)
   have R1:=R5.keep hb1 (by omega)
   have B1:Boxed w1 (R+1) 4 (.bool false):=(hb1.block _ (by omega)).trans B5
   have L1:Boxed w1 (R+2) 40 v:=(hb1.block _ (by omega)).trans L5
   have f1:=L1.frozen
   have c1:=L1.cell
   have hQ1:Q w w1:=Below.trans hQ5 (hb1.mono (by omega))
   have hs1:R+6≤w1.heap.size:=Nat.le_trans hs5 hb1.size
   have kf:KeepsFrom W2.heap.size W (w1.setCell ⟨R+2,0,none⟩ (.slice (some ⟨g',0,none⟩) n' cap')):=(((KeepsOthers.of_grownBy (grownBy_q hq5 none) (fun j o e=>by cases e)).trans ko).trans (KeepsOthers.setCell _ _ _)).from _
   have kb:KeepB [R+3,R+4,R+5] W (w1.setCell ⟨R+2,0,none⟩ (.slice (some ⟨g',0,none⟩) n' cap')):=((KeepB.q hq5).trans (fun k hk hlt=>hb1.block k (by
    simp only [List.mem_cons,List.not_mem_nil,or_false] at hk
    omega))).trans (KeepB.set _ (fun k hk=>by
    simp only [List.mem_cons,List.not_mem_nil,or_false] at hk
    omega) _ _)
   have HF:Hid (∃ v vals,Blk (w1.setCell ⟨R+2,0,none⟩ (.slice (some ⟨g',0,none⟩) n' cap')) R [.int .i64 0,.int .i64 0,.int .i64 0,.slice none 0 0] 42∧Boxed (w1.setCell ⟨R+2,0,none⟩ (.slice (some ⟨g',0,none⟩) n' cap')) (R+1) 4 (.bool false)∧Boxed (w1.setCell ⟨R+2,0,none⟩ (.slice (some ⟨g',0,none⟩) n' cap')) (R+2) 40 v∧(w1.setCell ⟨R+2,0,none⟩ (.slice (some ⟨g',0,none⟩) n' cap')).ownsRow (R+6) 3 1 v vals.length (numC vals)∧Hid (numsV (pre++[x])=some vals)∧Q w (w1.setCell ⟨R+2,0,none⟩ (.slice (some ⟨g',0,none⟩) n' cap'))∧R+6≤(w1.setCell ⟨R+2,0,none⟩ (.slice (some ⟨g',0,none⟩) n' cap')).heap.size) :=
    LH ⟨(.slice (some ⟨g',0,none⟩) n' cap'),vals++[z],R1.setOther (by omega) 0 (.slice (some ⟨g',0,none⟩) n' cap'),Blk.setOther (cs:=[_]) B1 (by omega) 0 (.slice (some ⟨g',0,none⟩) n' cap'),L1.set (.slice (some ⟨g',0,none⟩) n' cap'),by
     refine ownsRow_set ?_ (by omega)
     rw [HNl.out]
     have e:numC (vals++[z])=numC vals++[.int .i64 z]:=by unfold numC; rw [List.map_append]; rfl
     rw [e]; exact hown',HN2,hQ1.setCell (p:=⟨R+2,0,none⟩) (by simp; omega) (.slice (some ⟨g',0,none⟩) n' cap'),by simp; omega⟩
   clear hown' hgrow hlt5 hb1 ko R1 B1 L1 hQ1 hs1 R5 B5 L5 row5 c5 HN2 hQ5 hq5
   gi_wp2
   exact ⟨kf,kb,HF.out⟩
  ·have HX:Hid (lineV s=none):=LH (by
    unfold lineV
    rw [HP.out,show pre++x::post=(pre++[x])++post by simp,numsV_none _ _ (by rw [numsV_snoc,HN.out,hz]; rfl)]; rfl)
   have R5:=hbR.keep hq5 hbR.lt
   have B5:=boxed_kc hbB (KC.q hq5)
   have hQ5:=Q.trans hQ hq5
   have c0:=R5.cell 0
   have c1:=R5.cell 1
   have c2:=R5.cell 2
   have c3:=R5.cell 3
   simp only [zs4,zs5] at c0 c1 c2 c3
   have f0:=R5.frozen 0
   have f1:=R5.frozen 1
   have f2:=R5.frozen 2
   have f3:=R5.frozen 3
   have b0:=B5.cell
   have g0:=B5.frozen
   clear HA HN HP hcL hbR hbB hbL hrow hz hQ
   have ko:=((((((KeepsOthers.of_grownBy (grownBy_q hq5 none) (fun j o e=>by cases e)).trans (KeepsOthers.setCell w5 ⟨R,0,none⟩ (.int .i64 0))).trans (KeepsOthers.setCell _ ⟨R,1,none⟩ (.int .i64 0))).trans (KeepsOthers.setCell _ ⟨R,2,none⟩ (.int .i64 0))).trans (KeepsOthers.setCell _ ⟨R,3,none⟩ (.slice none 0 0))).trans (KeepsOthers.setCell _ ⟨R+1,0,none⟩ (.bool false)))
   have RR:=((((R5.set 0 (.int .i64 0)).set 1 (.int .i64 0)).set 2 (.int .i64 0)).set 3 (.slice none 0 0)).setOther (b':=R+1) (by omega) 0 (.bool false)
   have BB:=Boxed.set (.bool false) (show Boxed _ (R+1) 4 (.bool false) from Blk.setOther (cs:=[_]) (Blk.setOther (cs:=[_]) (Blk.setOther (cs:=[_]) (Blk.setOther (cs:=[_]) B5 (b':=R) (by omega) 0 (.int .i64 0)) (b':=R) (by omega) 1 (.int .i64 0)) (b':=R) (by omega) 2 (.int .i64 0)) (b':=R) (by omega) 3 (.slice none 0 0))
   have QQ:=((((hQ5.setCell (p:=⟨R,0,none⟩) hwR (.int .i64 0)).setCell (p:=⟨R,1,none⟩) hwR (.int .i64 0)).setCell (p:=⟨R,2,none⟩) hwR (.int .i64 0)).setCell (p:=⟨R,3,none⟩) hwR (.slice none 0 0)).setCell (p:=⟨R+1,0,none⟩) (by simp; omega) (.bool false)
   gi_wp2
   exact ⟨ko.from _,rfl,RR,BB,HX.out,QQ⟩
 case done =>
  rintro D ys W hD hys ⟨v,vals,hbR,hbB,hbL,hrow,HN,hQ,hs6⟩ hK
  subst hys
  have hwD:w.heap.size≤D:=by omega
  by_cases h4:vals.length<4
  ·have HX:Hid (lineV s=none):=LH (by unfold lineV; rw [HN.out,Option.bind_some]; unfold pieceV; rw [if_pos h4])
   obtain ⟨va,vc,rfl⟩:∃ a cp,v=.slice a vals.length cp:=by
    rcases hrow.2 with ⟨rfl,h0⟩ | ⟨g,cap,cur,rfl,_⟩
    ·exact ⟨_,_,by rw [h0]⟩
    ·exact ⟨_,_,rfl⟩
   have c0:=hbR.cell 0
   have c1:=hbR.cell 1
   have c2:=hbR.cell 2
   have c3:=hbR.cell 3
   simp only [zs4,zs5] at c0 c1 c2 c3
   have f0:=hbR.frozen 0
   have f1:=hbR.frozen 1
   have f2:=hbR.frozen 2
   have f3:=hbR.frozen 3
   have b0:=hbB.cell
   have g0:=hbB.frozen
   have hcL:=hbL.cell
   have ko:=((((((KeepsOthers.refl W).trans (KeepsOthers.setCell W ⟨R,0,none⟩ (.int .i64 0))).trans (KeepsOthers.setCell _ ⟨R,1,none⟩ (.int .i64 0))).trans (KeepsOthers.setCell _ ⟨R,2,none⟩ (.int .i64 0))).trans (KeepsOthers.setCell _ ⟨R,3,none⟩ (.slice none 0 0))).trans (KeepsOthers.setCell _ ⟨R+1,0,none⟩ (.bool false)))
   have RR:=((((hbR.set 0 (.int .i64 0)).set 1 (.int .i64 0)).set 2 (.int .i64 0)).set 3 (.slice none 0 0)).setOther (b':=R+1) (by omega) 0 (.bool false)
   have BB:=Boxed.set (.bool false) (show Boxed _ (R+1) 4 (.bool false) from Blk.setOther (cs:=[_]) (Blk.setOther (cs:=[_]) (Blk.setOther (cs:=[_]) (Blk.setOther (cs:=[_]) hbB (b':=R) (by omega) 0 (.int .i64 0)) (b':=R) (by omega) 1 (.int .i64 0)) (b':=R) (by omega) 2 (.int .i64 0)) (b':=R) (by omega) 3 (.slice none 0 0))
   have QQ:=((((hQ.setCell (p:=⟨R,0,none⟩) hwR (.int .i64 0)).setCell (p:=⟨R,1,none⟩) hwR (.int .i64 0)).setCell (p:=⟨R,2,none⟩) hwR (.int .i64 0)).setCell (p:=⟨R,3,none⟩) hwR (.slice none 0 0)).setCell (p:=⟨R+1,0,none⟩) (by simp; omega) (.bool false)
   have hz:(vals.length:Int)<4:=by omega
   have hK2:=ko.same D _ hK rfl
   have kc:=KC.put (.deferred none) hK2 rfl
   clear hrow HN hbR hbB hbL ko hQ h4
   go_wp2
   refine ⟨by simp,.inl ⟨_,_,rfl,run_takeDeferred hK2,?_⟩⟩
   exact ⟨_,results_line (RR.kc kc) (boxed_kc BB kc).cell _ rfl _ rfl rfl,.inl ⟨HX.out,rfl⟩,Below.trans QQ (below_put hwD hK2 _)⟩
  ·have HX:Hid (lineV s=some ⟨atI vals 0,atI vals 1,atI vals 2,vals.drop 3⟩):=LH (by unfold lineV; rw [HN.out,Option.bind_some]; unfold pieceV; rw [if_neg h4])
   rcases id hrow.2 with ⟨-,h0⟩ | ⟨g,gc,cur,rfl,hg,-,hle,-⟩
   ·omega
   have hcell:=num_cells rfl hrow
   have r0:=hcell 0 (by omega)
   have r1:=hcell 1 (by omega)
   have r2:=hcell 2 (by omega)
   have hcL0:=hbL.cell
   generalize atI vals 0=a0 at *
   generalize atI vals 1=a1 at *
   generalize atI vals 2=a2 at *
   generalize hnn:vals.length=n at *
   have hz:¬ (n:Int)<4:=by omega
   have hz1:(1:Int)<n:=by omega
   have hz2:(2:Int)<n:=by omega
   have hz3:(3:Int)≤n:=by omega
   have hz0:0<n:=by omega
   clear hcell HN hbL h4
   go_wp2_with fail
   have hcL:W.drew.cell? ⟨R+2,0,none⟩=some (.slice (some ⟨g,0,none⟩) n gc):=hcL0
   have s0:W.drew.cell? ⟨g,0,none⟩=some (.int .i64 a0):=r0
   have s1:W.drew.cell? ⟨g,1,none⟩=some (.int .i64 a1):=r1
   have s2:W.drew.cell? ⟨g,2,none⟩=some (.int .i64 a2):=r2
   refine goesOn_wp ?_
   refine wp_steadily 12 (by kernel_rfl) (by kernel_rfl) rfl ?_
   refine svq 0 rfl (by intro w' hq; have hc0:=qcell hq hcL; go_simp; try with_reducible rfl) ?_
   refine svp 1 ?_
   refine svq 2 rfl (by intro w' hq; have hc0:=qcell hq s0; go_simp; try with_reducible rfl) ?_
   refine svq 3 rfl (by intro w' hq; have hc0:=qcell hq hcL; go_simp; try with_reducible rfl) ?_
   refine svp 4 ?_
   refine svq 5 rfl (by intro w' hq; have hc0:=qcell hq s1; go_simp; try with_reducible rfl) ?_
   refine svq 6 rfl (by intro w' hq; have hc0:=qcell hq hcL; go_simp; try with_reducible rfl) ?_
   refine svp 7 ?_
   refine svq 8 rfl (by intro w' hq; have hc0:=qcell hq s2; go_simp; try with_reducible rfl) ?_
   refine svq 9 rfl (by intro w' hq; have hc0:=qcell hq hcL; go_simp; try with_reducible rfl) ?_
   refine svp 10 ?_
   refine svp 11 ?_
   refine steadily_done (by kernel_rfl) (fun w3 hq3=>?_)
   simp only [List.drop_succ_cons,List.drop_zero]
   have hqq:Q W w3:=Q.trans (Below.drew (Q.refl W)) hq3
   have R3:=hbR.keep hqq hbR.lt
   have B3:=boxed_kc hbB (KC.q hqq)
   have row3:=ownsRow_keep hrow hqq
   have Q3:=Q.trans hQ hqq
   have K3:=(hqq.block _ (Array.getElem?_eq_some_iff.1 hK).1).trans hK
   clear hbR hbB hrow hQ hK hcL hcL0 r0 r1 r2 s0 s1 s2 hq3 hqq
   have c0:=R3.cell 0
   have c1:=R3.cell 1
   have c2:=R3.cell 2
   have c3:=R3.cell 3
   simp only [zs4,zs5] at c0 c1 c2 c3
   have f0:=R3.frozen 0
   have f1:=R3.frozen 1
   have f2:=R3.frozen 2
   have f3:=R3.frozen 3
   have b0:=B3.cell
   have g0:=B3.frozen
   have ko:=((((((KeepsOthers.refl w3).trans (KeepsOthers.setCell w3 ⟨R,0,none⟩ (.int .i64 a0))).trans (KeepsOthers.setCell _ ⟨R,1,none⟩ (.int .i64 a1))).trans (KeepsOthers.setCell _ ⟨R,2,none⟩ (.int .i64 a2))).trans (KeepsOthers.setCell _ ⟨R,3,none⟩ (.slice (some ⟨g,3,none⟩) (n - 3) (gc - 3)))).trans (KeepsOthers.setCell _ ⟨R+1,0,none⟩ (.bool true)))
   have RR:=((((R3.set 0 (.int .i64 a0)).set 1 (.int .i64 a1)).set 2 (.int .i64 a2)).set 3 (.slice (some ⟨g,3,none⟩) (n - 3) (gc - 3))).setOther (b':=R+1) (by omega) 0 (.bool true)
   have BB:=Boxed.set (.bool true) (show Boxed _ (R+1) 4 (.bool false) from Blk.setOther (cs:=[_]) (Blk.setOther (cs:=[_]) (Blk.setOther (cs:=[_]) (Blk.setOther (cs:=[_]) B3 (b':=R) (by omega) 0 (.int .i64 a0)) (b':=R) (by omega) 1 (.int .i64 a1)) (b':=R) (by omega) 2 (.int .i64 a2)) (b':=R) (by omega) 3 (.slice (some ⟨g,3,none⟩) (n - 3) (gc - 3)))
   have QQ:=((((Q3.setCell (p:=⟨R,0,none⟩) hwR (.int .i64 a0)).setCell (p:=⟨R,1,none⟩) hwR (.int .i64 a1)).setCell (p:=⟨R,2,none⟩) hwR (.int .i64 a2)).setCell (p:=⟨R,3,none⟩) hwR (.slice (some ⟨g,3,none⟩) (n - 3) (gc - 3))).setCell (p:=⟨R+1,0,none⟩) (by simp; omega) (.bool true)
   have hK2:=ko.same D _ K3 rfl
   have kc:=KC.put (.deferred none) hK2 rfl
   have ROW:=ownsRow_kc (ownsRow_set (i:=0) (x:=.bool true) (ownsRow_set (i:=3) (x:=.slice (some ⟨g,3,none⟩) (n - 3) (gc - 3)) (ownsRow_set (i:=2) (x:=.int .i64 a2) (ownsRow_set (i:=1) (x:=.int .i64 a1) (ownsRow_set (i:=0) (x:=.int .i64 a0) row3 (b:=R) (by omega)) (b:=R) (by omega)) (b:=R) (by omega)) (b:=R) (by omega)) (b:=R+1) (by omega)) kc
   clear row3 R3 B3 ko Q3
   have HR:Hid (NumO (((((w3.setCell ⟨R,0,none⟩ (.int .i64 a0)).setCell ⟨R,1,none⟩ (.int .i64 a1)).setCell ⟨R,2,none⟩ (.int .i64 a2)).setCell ⟨R,3,none⟩ (.slice (some ⟨g,3,none⟩) (n - 3) (gc - 3))).setCell ⟨R+1,0,none⟩ (.bool true) |>.putObj D (.deferred none)) (⟨a0,a1,a2,vals.drop 3⟩,.slice (some ⟨g,3,none⟩) (n - 3) (gc - 3))):=LH (num_dropO hnn ROW _ rfl)
   have HK2:=LH hK2
   have HKC:=LH kc
   have HRR:=LH RR
   have HBB:=LH BB
   have HQQ:=LH QQ
   clear ROW hK2 kc RR BB QQ
   go_wp2
   simp only [goesOn]
   go_wp2
   refine ⟨by simp,.inl ⟨_,_,rfl,run_takeDeferred HK2.out,?_⟩⟩
   exact ⟨_,results_line (HRR.out.kc HKC.out) (boxed_kc HBB.out HKC.out).cell _ rfl _ rfl rfl,.inr ⟨_,_,HX.out,rfl,HR.out⟩,Below.trans HQQ.out (below_put hwD HK2.out _)⟩
theorem cut_line (s:Str) (hs:s.length≤100000) (w:World) (hE:Env w):Calls Tryz.prog 40 #[.string ⟨s.toArray⟩] w fun e w'=>LineRes s e w'∧Q w w' :=
 (callsIn_wide (n:=9)).1 (line_in s hs w hE)
end
section
open Go.RowKit Kp Go.Sort
theorem Good.txt {l:List Ct} (h:Good l):∀ x∈l,PcOk x∧x.ms.length≤512:=fun _ hx=>⟨h.ok hx,(h.ok hx).short⟩
set_option maxHeartbeats 1000000 in
theorem cut_Print (l:List Ct) (hg:Good l) (v:Value) (w:World) (hE:Env w) (hv:CtSl w v l) :
  Calls Tryz.prog 18 #[v] w fun e w'=>e=.returned (.tuple #[.string ⟨(textF l).toArray⟩,.int .i64 0])∧Q w w':=by
 have hC:=cut_Check l (by have:=hg.len; omega) (fun _ hx=>by have:=(hg.txt _ hx).2; omega) v w hv
 rw [(good_iff l).2 hg] at hC
 have HC:=LH hC
 have HT:=LH (fun W (hq:Q w W)=>cut_text l hg.len hg.txt v W (hE.q hq) (hv.keep hq))
 obtain ⟨a,cap,rfl,-⟩:=hv
 clear hC
 go_enter Tryz.func18,Tryz.ntmps18
 go_wp2_with fail
 refine HC.out.mono ?_
 rintro e w1 ⟨rfl,hq1⟩
 go_wp2_with fail
 refine (HT.out _ hq1).mono ?_
 rintro e w2 ⟨rfl,hq2⟩
 have hQ2:=Q.trans hq1 hq2
 go_wp2
 go_ret2
 exact ⟨rfl,hQ2⟩
theorem cut_Cut (c:UInt8) (s:Str) (hs:s.length<4294967281) (w:World) (hE:Env w) :
  Calls Tryz.prog 39 #[.string ⟨s.toArray⟩,.string ⟨#[c]⟩] w fun e w'=>e=.returned (.tuple #[.string ⟨(bef c s).toArray⟩,.string ⟨(aft c s).toArray⟩,.bool (has c s)])∧Q w w':=by
 obtain ⟨m,hm⟩:=hE.maxlen
 refine (Tryz.strings_Cut ⟨s.toArray⟩ ⟨#[c]⟩ m w hs hm).mono ?_
 rintro e w' ⟨rfl,n,rfl⟩
 exact ⟨by simp only [cut_one],Below.drewN (Below.refl _ _) n⟩
theorem infoCutY:(Tryz.prog.info? 42).map (fun i=>(i.zero,i.size,i.bytes))=some (some (.agg #[.int .i64 0,.int .i64 0,.int .i64 0,.slice none 0 0]),4,48):=by kernel_rfl
def Shows (s:Str) (L:List Ct):Prop:=linesV s=some L∧Good L∧textF L=s
theorem shows_text {l:List Ct} (h:Good l):Shows (textF l) l:=⟨lines_text l (fun _ hx=>h.ok hx),h,rfl⟩
theorem Shows.one {s:Str} {L K:List Ct} (h:Shows s L) (k:Shows s K):L=K:=by
 have:=h.1.symm.trans k.1
 injection this
def ParseC (s:Str) (v:Value) (er:Int) (W:World):Prop:=(er=3∧v=.slice none 0 0∧∀ L,¬ Shows s L)∨(er=0∧∃ L,Shows s L∧CtSl W v L)
set_option maxRecDepth 100000 in
set_option maxHeartbeats 4000000 in
theorem cut_Parse (s:Str) (hs:s.length≤60000) (w:World) (hE:Env w) :
  Calls Tryz.prog 19 #[.string ⟨s.toArray⟩] w fun e w'=>∃ v er,e=.returned (.tuple #[v,.int .i64 er])∧Hid (ParseC s v er w')∧Q w w':=by
 obtain ⟨c0,ci,cz0,cz1,cz2⟩:=info_parts infoCutY
 have hl0:decide ((65536:Int)<(s.length:Int))=false:=by simp; omega
 go_enter Tryz.func19,Tryz.ntmps19
 go_wp2
 go_loopw [5,4] (fun sv ov wr=>∃ (rest:Str) (L:List CV) (o:Value),sv=.string ⟨rest.toArray⟩∧o=ov∧L.length+rest.length≤s.length∧Hid (linesV s=(linesV rest).map (L.map (·.1)++·))∧Hid (∀ p∈L,NumO wr p∧p.1.ms.length≤100000)∧wr.ownsRow w.heap.size 42 4 o L.length (rowOf cvC L)∧Q w wr) (fun sv _ _=>match sv with | .string b=>b.size | _=>0)
 case atStart=>exact ⟨s,[],_,rfl,rfl,by simp,LH (by cases linesV s <;> rfl),LH (fun p hp=>by cases hp),World.ownsRow_nil _ _ _ _,Q.refl _⟩
 case round =>
  obtain ⟨rest,L,o,rfl,rfl,hlen,HP,HM,hown,hQ⟩:=hrel
  by_cases hr:rest=[]
  ·subst hr
   have HL:Hid (linesV s=some (L.map (·.1))):=LH (by rw [HP.out,linesV_nil]; simp)
   have HCt:Hid (CtSl wr o (L.map (·.1))):=LH (CtSl.of (RowSl.of_row cvC_len hown) (fun p hp=>(HM.out p hp).1.num))
   have hLl:(L.map (·.1)).length≤60000:=by rw [List.length_map]; simp only [List.length_nil] at hlen; omega
   have HC:=LH (cut_Check (L.map (·.1)) (by omega) (fun x hx=>by
    obtain ⟨p,hp,rfl⟩:=List.mem_map.1 hx
    have:=(HM.out p hp).2; omega) o wr HCt.out)
   obtain ⟨oa,oc,rfl⟩:∃ a cp,o=.slice a (L.map (·.1)).length cp:=by
    rcases hown.2 with ⟨rfl,h0⟩ | ⟨g,cap,cur,rfl,_⟩
    ·exact ⟨_,_,by rw [List.length_map,h0]⟩
    ·exact ⟨_,_,by rw [List.length_map]⟩
   clear HP HM hown hlen
   generalize L.map (·.1)=K at *
   by_cases hc:chkF K=0
   ·have hG:=(good_iff K).1 hc
    have HT:=LH (fun W (hq:Q wr W)=>cut_text K hG.len hG.txt (.slice oa K.length oc) W (hE.q (Q.trans hQ hq)) (HCt.out.keep hq))
    rw [hc] at HC
    clear hc
    by_cases ht:textF K=s
    ·have HX:Hid (∀ W,Q wr W→ParseC s (.slice oa K.length oc) 0 W):=LH (fun W hq=>.inr ⟨rfl,K,⟨HL.out,hG,ht⟩,HCt.out.keep hq⟩)
     rw [ht] at HT
     clear hG HL HCt ht
     go_wp2_with fail
     refine HC.out.mono ?_
     rintro e w1 ⟨rfl,hq1⟩
     go_wp2_with fail
     refine (HT.out _ hq1).mono ?_
     rintro e w2 ⟨rfl,hq2⟩
     have hq12:=Q.trans hq1 hq2
     have HX2:=LH (HX.out _ hq12)
     have hQ2:=Q.trans hQ hq12
     clear HX hq1 hq2 hq12 HC HT
     go_wp2
     go_ret2
     exact ⟨_,_,rfl,HX2,hQ2⟩
    ·have HX:Hid (∀ W,ParseC s (.slice none 0 0) 3 W):=LH (fun W=>.inl ⟨rfl,rfl,fun L h=>ht (by
      have e:=HL.out.symm.trans h.1
      injection e with e
      rw [e]; exact h.2.2)⟩)
     have hne:(textF K == s)=false:=by rw [beq_eq_false_iff_ne]; exact ht
     clear hG HL HCt ht
     generalize textF K=T at *
     go_wp2_with fail
     refine HC.out.mono ?_
     rintro e w1 ⟨rfl,hq1⟩
     go_wp2_with fail
     refine (HT.out _ hq1).mono ?_
     rintro e w2 ⟨rfl,hq2⟩
     have hQ2:=Q.trans hQ (Q.trans hq1 hq2)
     clear hq1 hq2 HC HT
     go_wp2
     go_ret2
     exact ⟨_,_,rfl,LH (HX.out _),hQ2⟩
   ·have HX:Hid (∀ W,ParseC s (.slice none 0 0) 3 W):=LH (fun W=>.inl ⟨rfl,rfl,fun L h=>hc (by
     have e:=HL.out.symm.trans h.1
     injection e with e
     rw [e]; exact (good_iff L).2 h.2.1)⟩)
    have hb:(chkF K != 0)=true:=by rw [bne_iff_ne]; exact hc
    clear HL HCt hc
    generalize chkF K=x at *
    go_wp2_with fail
    refine HC.out.mono ?_
    rintro e w1 ⟨rfl,hq1⟩
    have hQ1:=Q.trans hQ hq1
    clear hq1 HC
    go_wp2
    go_ret2
    exact ⟨_,_,rfl,LH (HX.out _),hQ1⟩
  ·have hre:(rest == [])=false:=by simpa using hr
   have hre2:(!(rest == []))=true:=by rw [hre]; rfl
   have lb:(bef 10 rest).length≤60000:=Nat.le_trans (bef_len rest) (by omega)
   have la:=aft_len (c:=10) rest
   have HC:=LH (cut_Cut 10 rest (by omega))
   have HS:=LH (cut_line (bef 10 rest) (by omega))
   cases hh:has 10 rest with
   | false =>
    have HX:Hid (∀ W,ParseC s (.slice none 0 0) 3 W):=LH (fun W=>.inl ⟨rfl,rfl,fun L h=>by
     have e:=h.1
     rw [HP.out,linesV_bad hr (.inl hh)] at e; cases e⟩)
    rw [hh] at HC
    clear HP HM hh lb la hown HS
    generalize bef 10 rest=ln at *
    generalize aft 10 rest=rs at *
    go_wp2_with fail
    refine (HC.out _ (hE.q hQ)).mono ?_
    rintro e w1 ⟨rfl,hq1⟩
    have hQ1:=Q.trans hQ hq1
    clear hq1 HC
    go_wp2
    go_ret2
    exact ⟨_,_,rfl,LH (HX.out _),hQ1⟩
   | true =>
    have lt:=aft_lt rest hh
    rw [hh] at HC
    cases hk:lineV (bef 10 rest) with
    | none =>
     have HX:Hid (∀ W,ParseC s (.slice none 0 0) 3 W):=LH (fun W=>.inl ⟨rfl,rfl,fun L h=>by
      have e:=h.1
      rw [HP.out,linesV_bad hr (.inr hk)] at e; cases e⟩)
     have HN:=LH hk
     clear HP HM hh lb la hown hk
     generalize bef 10 rest=ln at *
     generalize aft 10 rest=rs at *
     go_wp2_with fail
     refine (HC.out _ (hE.q hQ)).mono ?_
     rintro e w1 ⟨rfl,hq1⟩
     have hQ1:=Q.trans hQ hq1
     clear hq1 HC
     go_wp2_with fail
     refine (HS.out _ (hE.q hQ1)).mono ?_
     rintro e w2 ⟨hR,hq2⟩
     have hQ2:=Q.trans hQ1 hq2
     rcases hR with ⟨-,rfl⟩ | ⟨x,u,h,-⟩
     ·clear HS hq2
      go_wp2
      go_ret2
      exact ⟨_,_,rfl,LH (HX.out _),bt⟩
     ·rw [HN.out] at h; cases h
    | some x =>
     have HP2:Hid (linesV s=(linesV (aft 10 rest)).map ((L.map (·.1)++[x])++·)):=LH (by
      rw [HP.out,linesV_cons hr hh hk]
      cases linesV (aft 10 rest) with
      | none=>rfl
      | some r=>simp)
     have hxl:=lineV_len hk
     have HN:=LH hk
     clear HP hh hk la
     generalize bef 10 rest=ln at *
     generalize aft 10 rest=rs at *
     go_wp2_with fail
     refine (HC.out _ (hE.q hQ)).mono ?_
     rintro e w1 ⟨rfl,hq1⟩
     have hQ1:=Q.trans hQ hq1
     clear HC
     go_wp2_with fail
     refine (HS.out _ (hE.q hQ1)).mono ?_
     rintro e w2 ⟨hR,hq2⟩
     rcases hR with ⟨h,-⟩ | ⟨x',u,h,rfl,hnum⟩
     ·rw [HN.out] at h; cases h
     ·obtain rfl:x=x':=by
       rw [HN.out] at h; injection h
      have hq12:=Q.trans hq1 hq2
      have hQ2:=Q.trans hQ hq12
      have how:=ownsRow_keep hown hq12
      have HM2:Hid (∀ p∈L,NumO w2 p∧p.1.ms.length≤100000):=LH (fun p hp=>⟨(HM.out p hp).1.q hq12,(HM.out p hp).2⟩)
      clear HS HM hown hq1 hq2 hq12 h HN hQ hQ1
      obtain ⟨x1,x2,x3,xm⟩:=x
      simp only [ctC]
      have hq4:Q w2 ((w2.alloc (.cells #[.int .i64 x1,.int .i64 x2,.int .i64 x3,u] 42)).alloc (.cells #[.int .i64 x1,.int .i64 x2,.int .i64 x3,u] 42)):=bt
      have how4:=ownsRow_keep how hq4
      have B4:=Blk.new1 w2 (.cells #[.int .i64 x1,.int .i64 x2,.int .i64 x3,u] 42) [.int .i64 x1,.int .i64 x2,.int .i64 x3,u] 42
      have hs4:((w2.alloc (.cells #[.int .i64 x1,.int .i64 x2,.int .i64 x3,u] 42)).alloc (.cells #[.int .i64 x1,.int .i64 x2,.int .i64 x3,u] 42)).heap.size=w2.heap.size+2:=by simp
      have hw2:=hQ2.size
      obtain ⟨ua,uc,hu⟩:∃ a c,u=.slice a xm.length c:=by
       obtain ⟨a,c,h,-⟩:=hnum.num
       exact ⟨a,c,h⟩
      subst hu
      have hL6:L.length≤60000:=by omega
      have hRw:Hid (rowOf cvC (L++[(⟨x1,x2,x3,xm⟩,.slice ua xm.length uc)])=rowOf cvC L++[.int .i64 x1,.int .i64 x2,.int .i64 x3,.slice ua xm.length uc]):=LH (rowOf_snoc _ _)
      have hLe:Hid ((L++[((⟨x1,x2,x3,xm⟩:Ct),Value.slice ua xm.length uc)]).length=L.length+1):=LH (by simp)
      go_wp2_with (at_builtin; refine wpList_append_own_at _ rfl (.tmp 33) (.tmp 35) 22 rfl w.heap.size 42 c0 _ 4 48 Tryz.underlying22 ci cz0 cz1 cz2 rfl (by decide) _ L.length (rowOf cvC L) rfl how4 ⟨w2.heap.size+1,0,none⟩ 1 1 [.int .i64 x1,.int .i64 x2,.int .i64 x3,.slice ua xm.length uc] rfl rfl ?qe2 ?qe3 ?qe4 ?qe5 ?qe6 ?_)
      case qe3=>exact ⟨rfl,rfl,rfl,rfl⟩
      case qe4=>unfold maxLen; omega
      case qe5=>omega
      case qe6=>omega
      intro o' w6 hown6 hgrow6 _ _
      have hlt6:=fun k hk=>(how4.lt k hk).1
      have hQ6:Q w w6:=Below.trans (Below.trans hQ2 (hq4.mono hw2)) ((Below.refl _ _).grown hgrow6 (by rw [hs4]; omega) hlt6)
      have HM6:Hid (∀ p∈L++[((⟨x1,x2,x3,xm⟩:Ct),Value.slice ua xm.length uc)],NumO w6 p∧p.1.ms.length≤100000):=LH (fun p hp=>by
       rcases List.mem_append.1 hp with h | h
       ·exact ⟨((HM2.out p h).1.q hq4).grown how4 hgrow6,(HM2.out p h).2⟩
       ·rw [List.mem_singleton] at h
        subst h
        exact ⟨(hnum.q hq4).grown how4 hgrow6,by show xm.length≤100000; omega⟩)
      have HO6:Hid (w6.ownsRow w.heap.size 42 4 o' (L++[((⟨x1,x2,x3,xm⟩:Ct),Value.slice ua xm.length uc)]).length (rowOf cvC (L++[(⟨x1,x2,x3,xm⟩,.slice ua xm.length uc)]))):=LH (by rw [hRw.out,hLe.out]; exact hown6)
      have HP6:Hid (linesV s=(linesV rs).map ((L++[((⟨x1,x2,x3,xm⟩:Ct),Value.slice ua xm.length uc)]).map (·.1)++·)):=LH (by rw [HP2.out,List.map_append]; rfl)
      clear hown6 hgrow6 how how4 hq4 hlt6 HM2 HP2 hRw B4 hnum hs4
      go_wp2
      go_roundw
      case rel=>exact ⟨rs,_,_,rfl,rfl,by rw [hLe.out]; omega,HP6,HM6,HO6.out,hQ6⟩
      case measure=>exact lt
end
end Go.Proofs.YtohlpeicpoaanaaGreatDoor
