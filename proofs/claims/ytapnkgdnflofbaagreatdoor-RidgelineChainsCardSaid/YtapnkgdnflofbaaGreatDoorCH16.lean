/-
  Walks of package plan: whether the numbers of the sides are in their ranges.; Walks of package plan: whether the rings have their shape.; Walks of package plan: whether the rings lie as they should.; Walks of package plan: the sides of all rings one behind the other.; A plan of one ring: whether sides cross, whether its corners are right. Mathematics.; Walks of package plan, at a plan of one ring: whether its corners are right.; Functions that range over a function within a loop: the marks of many rounds.
-/
import Derived.Test.YtapnkgdnflofbaaGreatDoorCH15
import Derived.LoopN
import Derived.Test.YtapnkgdnflofbaaGreatDoorCH13
set_option maxRecDepth 100000
set_option maxHeartbeats 4000000
namespace Go.Proofs.YtapnkgdnflofbaaGreatDoor
section
open Go.RowKit Go.Shelf Kp
attribute [local go_sem] Oper.semAt_some
theorem zkA(s:Sd)(w:World):CR 183 #[.agg (sdC s).toArray] w (.bool (!zah s)):=by
 have HR:=LH (fun w=>zmW s w)
 generalize zah s=rg at *
 obtain⟨x,y,rise,run,gable,plate,over⟩:=s
 unfold sdC at *
 simp only at *
 go_enter Tryz.func183,Tryz.ntmps183
 go_wp2_with fail
 refine cx (HR.out _) fun w2 hq2=>?_
 have hQ:Q w w2:=Q.trans ((Below.refl _ w).alloc (Nat.le_refl _) _) hq2
 go_wp2
 go_ret
 exact⟨rfl,hQ⟩
theorem zr0{r:List Sd}{f:Sd→Bool}{k:Nat}(hk:k<r.length)(h:f (zcf r k)=true):(r.any f)=true:=by
 rw[zcN hk]at h
 exact List.any_eq_true.2 ⟨_,List.getElem_mem hk,h⟩
theorem any_none{r:List Sd}{f:Sd→Bool}(h:∀ k,k<r.length→f (zcf r k)=false):(r.any f)=false:=by
 rw[List.any_eq_false]
 intro s hs
 obtain⟨k,hk,rfl⟩:=List.mem_iff_getElem.1 hs
 rw[← zcN hk,h k hk];decide
theorem znc(r:List Sd)(hlen:r.length≤1000)(a:Option Addr)(cap:Nat)(w:World)(hrow:zci w a r)(hba:∀ k∈zbM a,k<w.heap.size) :
  Calls Tryz.prog 246 #[.slice a r.length cap,.func (.func 183) #[] #[]] w fun e w'=>∃ z:Int,e=.returned (.int .i64 z)∧decide (0≤z)=(r.any fun s=>!zah s)∧Q w w':=by
 have HR:=LH hrow
 have HY:Hid (∀ k,k<r.length→zah (zcf r k)=false→(r.any fun s=>!zah s)=true):=LH (fun k hk h=>zr0 hk (by rw[h];rfl))
 have HZ:Hid ((∀ k,k<r.length→zah (zcf r k)=true)→(r.any fun s=>!zah s)=false):=LH (fun h=>any_none (fun j hj=>by
  show (!zah (zcf r j))=false
  rw[h j hj];rfl))
 generalize (r.any fun s=>!zah s)=an at *
 clear hrow
 go_enter Tryz.func246,Tryz.ntmps246
 go_wp2
 go_loopw [8] (fun i wr=>∃ k:Nat,k≤r.length∧i=.int .i64 k∧Hid (∀ j,j<k→zah (zcf r j)=true)∧Q w wr) (fun i _=>r.length - (intOf i).toNat)
 case atStart=>exact⟨0,by omega,rfl,LH (fun j hj=>absurd hj (Nat.not_lt_zero _)),Below.refl _ _⟩
 case round =>
  obtain⟨k,hk,rfl,HA,hQ⟩:=hrel
  by_cases hlt:k<r.length
  ·obtain⟨b,o,rfl,hc⟩:=(HR.out.q hQ) k hlt
   have HAk:Hid (zah (zcf r k)=true→∀ j,j<k+1→zah (zcf r j)=true):=LH (fun h j hj=>by
    rcases Nat.lt_or_ge j k with h1 | h1
    ·exact HA.out j h1
    ·obtain rfl:j=k:=by omega
     exact h)
   have HN:=LH (HY.out k hlt)
   have HG:=LH (fun w=>zkA (zcf r k) w)
   generalize zah (zcf r k)=rg at *
   generalize zcf r k=s at *
   have d0:wr.cell? ⟨b,o+k*7,none⟩=some (.int .i64 s.x):=hc 0 _ rfl
   have d1:wr.cell? ⟨b,o+k*7+1,none⟩=some (.int .i64 s.y):=hc 1 _ rfl
   have d2:wr.cell? ⟨b,o+k*7+2,none⟩=some (.int .i64 s.rise):=hc 2 _ rfl
   have d3:wr.cell? ⟨b,o+k*7+3,none⟩=some (.int .i64 s.run):=hc 3 _ rfl
   have d4:wr.cell? ⟨b,o+k*7+4,none⟩=some (.bool s.gable):=hc 4 _ rfl
   have d5:wr.cell? ⟨b,o+k*7+5,none⟩=some (.int .i64 s.plate):=hc 5 _ rfl
   have d6:wr.cell? ⟨b,o+k*7+6,none⟩=some (.int .i64 s.over):=hc 6 _ rfl
   have hkz:(k:Int)<r.length:=by omega
   have hk0:(0:Int)≤k:=by omega
   have hln:(r.length:Int)≤1000:=by omega
   have hdk:decide ((0:Int)≤(k:Int))=true:=by simp
   unfold sdC at HG
   clear hc HR HA
   go_wp2_with fail
   refine cx (HG.out _) fun w2 hq2=>?_
   have hQ2:Q w w2:=Q.trans hQ hq2
   cases rg
   ·have ha:=HN.out rfl
    clear HN HAk HY HZ HG
    subst ha
    go_wp2
    go_ret
    exact⟨_,rfl,hdk,hQ2⟩
   ·have HK:=LH (HAk.out rfl)
    clear HAk HN HG d0 d1 d2 d3 d4 d5 d6
    go_wp2
    go_roundw
    case rel=>exact⟨k+1,by omega,by go_num,HK,hQ2⟩
    case measure=>simp[intOf];omega
  ·obtain rfl:k=r.length:=by omega
   have ha:=HZ.out HA.out
   clear HY HZ HA
   subst ha
   go_wp2
   go_ret
   exact⟨_,rfl,rfl,hQ⟩
theorem zjv(r:List Sd)(hlen:r.length≤1000)(a:Option Addr)(cap:Nat)(w:World)(hrow:zci w a r)(hba:∀ k∈zbM a,k<w.heap.size) :
  CR 182 #[.slice a r.length cap,.func (.func 183) #[] #[]] w (.bool (r.any fun s=>!zah s)):=by
 have HI:=LH (fun w h1 h2=>znc r hlen a cap w h1 h2)
 generalize (r.any fun s=>!zah s)=an at *
 go_enter Tryz.func182,Tryz.ntmps182
 go_wp2_with fail
 refine(HI.out _ hrow hba).mono ?_
 rintro e w1⟨z,rfl,hz,hq1⟩
 subst hz
 go_wp2
 go_ret
 exact⟨rfl,hq1⟩
theorem zmV(r:List Sd)(hr:∀ i,i<r.length→ArnOk (arn r i))(hlen:r.length≤1000)(a:Option Addr)(cap:Nat)(w:World)(hrow:zci w a r)(hba:∀ k∈zbM a,k<w.heap.size) :
  CR 187 #[.slice a r.length cap] w (.bool (zan r)) :=
 callsIn_wide.1 (zpI r hr hlen a cap w hrow hba)
theorem zkz(r:List Sd)(hr:∀ i,i<r.length→ArnOk (arn r i))(hlen:r.length≤1000)(a:Option Addr)(cap:Nat)(w:World)(hrow:zci w a r)(hba:∀ k∈zbM a,k<w.heap.size) :
  CR 186 #[.slice a r.length cap] w (.bool (!zan r)):=by
 have HS:=LH (zmV r hr hlen a cap w hrow hba)
 clear hr hrow hba
 generalize zan r=sh at *
 generalize r.length=n at *
 go_enter Tryz.func186,Tryz.ntmps186
 go_wp2_with fail
 refine HS.out.mono ?_
 rintro e w2⟨rfl,hq2⟩
 go_wp2
 go_ret
 exact⟨rfl,hq2⟩
theorem znd(R:List (List Sd))(hn:R.length≤1000)(hlen:∀ r∈R,0<r.length∧r.length≤1000)(hok:∀ r∈R,∀ i,i<r.length→ArnOk (arn r i))(v:Value)(w:World)(hv:zi9 w v R) :
  Calls Tryz.prog 248 #[v,.func (.func 186) #[] #[]] w fun e w'=>∃ z:Int,e=.returned (.int .i64 z)∧decide (0≤z)=(R.any fun r=>!zan r)∧Q w w':=by
 have HR:=LH hv
 have HY:Hid (∀ k (hk:k<R.length),zan R[k]=false→(R.any fun r=>!zan r)=true):=LH (fun k hk h=>List.any_eq_true.2 ⟨_,List.getElem_mem hk,by rw[h];rfl⟩)
 have HZ:Hid ((∀ k (hk:k<R.length),zan R[k]=true)→(R.any fun r=>!zan r)=false):=LH (fun h=>by
  rw[List.any_eq_false]
  intro r hr
  obtain⟨k,hk,rfl⟩:=List.mem_iff_getElem.1 hr
  rw[h k hk];decide)
 generalize (R.any fun r=>!zan r)=an at *
 have HL:=LH hlen
 have HK:=LH hok
 clear hlen hok
 obtain⟨a,cap,rfl,-⟩:=hv
 go_enter Tryz.func248,Tryz.ntmps248
 go_wp2
 go_loopw [8] (fun i wr=>∃ k:Nat,k≤R.length∧i=.int .i64 k∧Hid (∀ j (hj:j<R.length),j<k→zan R[j]=true)∧Q w wr) (fun i _=>R.length - (intOf i).toNat)
 case atStart=>exact⟨0,by omega,rfl,LH (fun j _ hj=>absurd hj (Nat.not_lt_zero _)),Below.refl _ _⟩
 case round =>
  obtain⟨k,hk,rfl,HA,hQ⟩:=hrel
  by_cases hlt:k<R.length
  ·obtain⟨a',cap',he,hc⟩:=HR.out.keep hQ
   obtain⟨b,o,vi,ha,hb,hcell,hrs⟩:=hc k hlt
   injection he with he1 he2 he3
   subst he1 he3
   subst ha
   have HAk:Hid (zan R[k]=true→∀ j (hj:j<R.length),j<k+1→zan R[j]=true):=LH (fun h j hj' hj=>by
    rcases Nat.lt_or_ge j k with h1 | h1
    ·exact HA.out j hj' h1
    ·obtain rfl:j=k:=by omega
     exact h)
   have HN:=LH (HY.out k hlt)
   have hLk:=HL.out R[k] (List.getElem_mem hlt)
   have hOk:=HK.out R[k] (List.getElem_mem hlt)
   generalize R[k]=r at *
   obtain⟨a2,c2,rfl,-⟩:=id hrs
   obtain⟨-,hrow,hba⟩:=zba.at hrs
   have HG:=LH (zkz r hOk hLk.2 a2 c2 wr hrow (fun k hk=>hba k hk hLk.1))
   generalize zan r=sh at *
   generalize r.length=n at *
   have hkz:(k:Int)<R.length:=by omega
   have hk0:(0:Int)≤k:=by omega
   have hln:(R.length:Int)≤1000:=by omega
   have hdk:decide ((0:Int)≤(k:Int))=true:=by simp
   clear hc HR HA HL HK hrs hrow hba hOk hLk
   go_wp2_with fail
   refine HG.out.mono ?_
   rintro e w2⟨rfl,hq2⟩
   have hQ2:Q w w2:=Q.trans hQ hq2
   cases sh
   ·have ha:=HN.out rfl
    clear HN HAk HY HZ HG
    subst ha
    go_wp2
    go_ret
    exact⟨_,rfl,hdk,hQ2⟩
   ·have HK:=LH (HAk.out rfl)
    clear HAk HN HG
    go_wp2
    go_roundw
    case rel=>exact⟨k+1,by omega,by go_num,HK,hQ2⟩
    case measure=>simp[intOf];omega
  ·obtain rfl:k=R.length:=by omega
   have ha:=HZ.out (fun j hj=>HA.out j hj hj)
   clear HY HZ HA
   subst ha
   go_wp2
   go_ret
   exact⟨_,rfl,rfl,hQ⟩
theorem zjw(R:List (List Sd))(hn:R.length≤1000)(hlen:∀ r∈R,0<r.length∧r.length≤1000)(hok:∀ r∈R,∀ i,i<r.length→ArnOk (arn r i))(v:Value)(w:World)(hv:zi9 w v R) :
  CR 185 #[v,.func (.func 186) #[] #[]] w (.bool (R.any fun r=>!zan r)):=by
 have HI:=LH (znd R hn hlen hok v w hv)
 generalize (R.any fun r=>!zan r)=an at *
 clear hlen hok hv
 go_enter Tryz.func185,Tryz.ntmps185
 go_wp2_with fail
 refine HI.out.mono ?_
 rintro e w1⟨z,rfl,hz,hq1⟩
 subst hz
 go_wp2
 go_ret
 exact⟨rfl,hq1⟩
theorem zmY(r:List Sd)(hr:∀ i,i<r.length→ArnOk (arn r i))(hlen:r.length≤1000)(px py:Int)(a:Option Addr)(cap:Nat)(w:World)(hrow:zci w a r)(hba:∀ k∈zbM a,k<w.heap.size) :
  CR 256 #[.slice a r.length cap,.agg #[.int .i64 px,.int .i64 py]] w (.bool (zco r px py r.length)) :=
 callsIn_wide.1 (zqj r hr hlen px py a cap w hrow hba)
def zj8(R:List (List Sd))(i:Nat):Bool:=decide (0<zes (ringAt R i) (ringAt R i).length) == (i == 0)
theorem zoM{R:List (List Sd)}(h:∀ i,i<R.length→zj8 R i=true∧∀ k,k<R.length→zjR R i k=true):zbS R=true:=by
 unfold zbS
 rw[List.all_eq_true]
 intro i hi
 obtain⟨h1,h2⟩:=h i (List.mem_range.1 hi)
 rw[Bool.and_eq_true,List.all_eq_true]
 exact⟨h1,fun k hk=>h2 k (List.mem_range.1 hk)⟩
theorem zmZ{R:List (List Sd)}{i:Nat}(hi:i<R.length)(h:zj8 R i=false):zbS R=false:=by
 rw[Bool.eq_false_iff]
 intro hp
 unfold zbS at hp
 rw[List.all_eq_true]at hp
 have:=hp i (List.mem_range.2 hi)
 rw[Bool.and_eq_true]at this
 have h2:zj8 R i=true:=this.1
 rw[h]at h2
 exact absurd h2 (by decide)
theorem zoN{R:List (List Sd)}{i k:Nat}(hi:i<R.length)(hk:k<R.length)(h:zjR R i k=false):zbS R=false:=by
 rw[Bool.eq_false_iff]
 intro hp
 unfold zbS at hp
 rw[List.all_eq_true]at hp
 have:=hp i (List.mem_range.2 hi)
 rw[Bool.and_eq_true,List.all_eq_true]at this
 have h2:=this.2 k (List.mem_range.2 hk)
 rw[h]at h2
 exact absurd h2 (by decide)
theorem zaE{R:List (List Sd)}{i:Nat}(h:i<R.length):ringAt R i=R[i]:=by unfold ringAt;rw[List.getD_eq_getElem?_getD,List.getElem?_eq_getElem h];rfl
theorem zi9.ring{w:World}{v:Value}{R:List (List Sd)}(h:zi9 w v R)(hl:∀ r∈R,0<r.length):∃ a cap,v=.slice a R.length cap∧∀ i,i<R.length→∃ b o a2 c2,a=some ⟨b,o,none⟩∧w.cell? ⟨b,o+i,none⟩=some (.slice a2 (ringAt R i).length c2)∧zci w a2 (ringAt R i)∧∀ k∈zbM a2,k<w.heap.size:=by
 obtain⟨a,cap,rfl,hc⟩:=h
 refine⟨a,cap,rfl,fun i hi=>?_⟩
 obtain⟨b,o,vi,ha,hb,hcell,hrs⟩:=hc i hi
 have hl':=hl _ (List.getElem_mem hi)
 rw[← zaE hi]at hrs hl'
 obtain⟨a2,c2,rfl,-⟩:=id hrs
 obtain⟨-,hrow,hba⟩:=zba.at hrs
 exact⟨b,o,a2,c2,ha,hcell,hrow,fun k hk=>hba k hk hl'⟩
theorem zmX(R:List (List Sd))(hn:R.length≤1000)(hlen:∀ r∈R,0<r.length∧r.length≤1000)(hok:∀ r∈R,∀ i,i<r.length→ArnOk (arn r i))(v:Value)(w:World)(hv:zi9 w v R) :
  CR 189 #[v] w (.bool (zbS R)):=by
 have HY:=LH (zoM (R:=R))
 have HT:Hid (∀ i,i<R.length→zj8 R i=false→zbS R=false):=LH (fun i hi h=>zmZ hi h)
 have HLI:Hid (∀ i k,i<R.length→k<R.length→zjR R i k=false→zbS R=false):=LH (fun i k hi hk h=>zoN hi hk h)
 generalize zbS R=pl at *
 have HR:Hid (∀ W,Q w W→zi9 W v R):=LH (fun W hq=>hv.keep hq)
 have hl0:∀ r∈R,0<r.length:=fun r hr=>(hlen r hr).1
 have HA:Hid (∀ W i a2 c2,i<R.length→zci W a2 (ringAt R i)→(∀ k∈zbM a2,k<W.heap.size)→CR 255 #[.slice a2 (ringAt R i).length c2] W (.int .i64 (zes (ringAt R i) (ringAt R i).length))):=LH (fun W i a2 c2 hi h1 h2=>by
  have hm:ringAt R i∈R:=by rw[zaE hi];exact List.getElem_mem hi
  exact zp2 (ringAt R i) (hok _ hm) (hlen _ hm).2 a2 c2 W h1 h2)
 have HI:Hid (∀ W i a2 c2 px py,i<R.length→zci W a2 (ringAt R i)→(∀ k∈zbM a2,k<W.heap.size)→CR 256 #[.slice a2 (ringAt R i).length c2,.agg #[.int .i64 px,.int .i64 py]] W (.bool (zco (ringAt R i) px py (ringAt R i).length))):=LH (fun W i a2 c2 px py hi h1 h2=>by
  have hm:ringAt R i∈R:=by rw[zaE hi];exact List.getElem_mem hi
  exact zmY (ringAt R i) (hok _ hm) (hlen _ hm).2 px py a2 c2 W h1 h2)
 have HRI:Hid (∀ W,Q w W→∃ a cap,v=.slice a R.length cap∧∀ i,i<R.length→∃ b o a2 c2,a=some ⟨b,o,none⟩∧W.cell? ⟨b,o+i,none⟩=some (.slice a2 (ringAt R i).length c2)∧zci W a2 (ringAt R i)∧∀ k∈zbM a2,k<W.heap.size):=LH (fun W hq=>(HR.out W hq).ring hl0)
 have HL0:Hid (∀ i,i<R.length→0<(ringAt R i).length):=LH (fun i hi=>by rw[zaE hi];exact hl0 _ (List.getElem_mem hi))
 clear hlen hok hl0 HR
 obtain⟨a,cap,rfl,-⟩:=hv
 have hln:(R.length:Int)≤1000:=by omega
 go_enter Tryz.func189,Tryz.ntmps189
 go_wp2
 go_loopw [9] (fun i wr=>∃ k:Nat,k≤R.length∧i=.int .i64 k∧Hid (∀ j,j<k→zj8 R j=true∧∀ m,m<R.length→zjR R j m=true)∧Q w wr) (fun i _=>R.length - (intOf i).toNat)
 case atStart=>exact⟨0,by omega,rfl,LH (fun j hj=>absurd hj (Nat.not_lt_zero _)),Below.refl _ _⟩
 case round =>
  obtain⟨k,hk,rfl,HP,hQ⟩:=hrel
  by_cases hlt:k<R.length
  ·obtain⟨a',cap',he,hc⟩:=HRI.out wr hQ
   obtain⟨b,o,a2,c2,ha,hcell,hrow,hba⟩:=hc k hlt
   injection he with he1 he2 he3
   subst he1 he3
   subst ha
   have HAk:=LH (HA.out wr k a2 c2 hlt hrow hba)
   have HTk:=LH (HT.out k hlt)
   have htu:zj8 R k=(decide (0<zes (ringAt R k) (ringAt R k).length) == (k == 0)):=rfl
   have HPk:Hid (zj8 R k=true→(∀ m,m<R.length→zjR R k m=true)→∀ j,j<k+1→zj8 R j=true∧∀ m,m<R.length→zjR R j m=true):=LH (fun h1 h2 j hj=>by
    rcases Nat.lt_or_ge j k with h | h
    ·exact HP.out j h
    ·obtain rfl:j=k:=by omega
     exact⟨h1,h2⟩)
   have hrl:=HL0.out k hlt
   have HLk:=LH (fun m hm=>HLI.out k m hlt hm)
   have hkz:(k:Int)<R.length:=by omega
   have hk0:(0:Int)≤k:=by omega
   clear hc HT HP
   generalize zes (ringAt R k) (ringAt R k).length=ar at *
   generalize zj8 R k=tu at *
   have hno:tu=false∨tu=true:=by cases tu <;> simp
   rcases hno with rfl | rfl
   ·have hp:=HTk.out rfl
    clear HTk HPk HLI HLk HY HRI HI HA
    subst hp
    by_cases h1:0<ar
    ·by_cases h2:k=0
     ·subst h2
      rw[show decide (0<ar)=true by simpa using h1]at htu
      exact absurd htu (by decide)
     ·have e2:((k:Int) == 0)=false:=by simpa using h2
      have e3:(k == 0)=false:=by simpa using h2
      clear htu
      go_wp2_with fail
      refine HAk.out.mono ?_
      rintro e w2⟨rfl,hq2⟩
      go_wp2
      go_ret
      exact⟨rfl,Q.trans hQ hq2⟩
    ·by_cases h2:k=0
     ·have e2:((k:Int) == 0)=true:=by rw[h2];rfl
      have e3:(k == 0)=true:=by rw[h2];rfl
      have e1:decide (0<ar)=false:=by simpa using h1
      clear htu h2
      go_wp2_with fail
      refine HAk.out.mono ?_
      rintro e w2⟨rfl,hq2⟩
      go_wp2
      go_ret
      exact⟨rfl,Q.trans hQ hq2⟩
     ·rw[show decide (0<ar)=false by simpa using h1,show (k == 0)=false by simpa using h2]at htu
      exact absurd htu (by decide)
   ·have HPm:=LH (HPk.out rfl)
    clear HTk HPk
    by_cases h1:0<ar
    ·by_cases h2:k=0
     ·have e2:((k:Int) == 0)=true:=by rw[h2];rfl
      have e3:(k == 0)=true:=by rw[h2];rfl
      have e1:decide (0<ar)=true:=by simpa using h1
      clear htu h2
      go_wp2_with fail
      refine HAk.out.mono ?_
      rintro e w2⟨rfl,hq2⟩
      have hQ2:Q w w2:=Q.trans hQ hq2
      clear HAk
      go_wp2
      go_loopw [22] (fun i wl=>∃ m:Nat,m≤R.length∧i=.int .i64 m∧Hid (∀ j,j<m→zjR R k j=true)∧Q wr wl) (fun i _=>R.length - (intOf i).toNat)
      case atStart=>exact⟨0,by omega,rfl,LH (fun j hj=>absurd hj (Nat.not_lt_zero _)),hq2⟩
      case round =>
       obtain⟨m,hm,rfl,HM,hQn⟩:=hrel
       have hQm:=Q.trans hQ hQn
       by_cases hlm:m<R.length
       ·obtain⟨a',cap',he,hc⟩:=HRI.out _ hQm
        obtain⟨b',o',a3,c3,ha,hcell3,hrow3,hba3⟩:=hc m hlm
        injection he with he1 he2 he3
        subst he3
        rw[ha]at he1
        injection he1 with he1
        injection he1 with he4 he5
        subst he4 he5
        have hmz:(m:Int)<R.length:=by omega
        have hm0:(0:Int)≤m:=by omega
        clear hc ha
        have hl:zjR R k m=true:=by unfold zjR;rw[e3];simp
        have HM2:Hid (∀ j,j<m+1→zjR R k j=true):=LH (fun j hj=>by
         rcases Nat.lt_or_ge j m with h | h
         ·exact HM.out j h
         ·obtain rfl:j=m:=by omega
          exact hl)
        clear hl HM
        by_cases hmk:m=k
        ·have g1:((m:Int) == (k:Int))=true:=by rw[hmk];simp
         clear hmk
         go_wp2
         go_roundw
         case rel=>exact⟨m+1,by omega,by go_num,HM2,hQn⟩
         case measure=>simp[intOf];omega
        ·have g1:((m:Int) == (k:Int))=false:=by rw[beq_eq_false_iff_ne];omega
         have g2:¬ (m:Int)=(k:Int):=by omega
         go_wp2
         go_roundw
         case rel=>exact⟨m+1,by omega,by go_num,HM2,hQn⟩
         case measure=>simp[intOf];omega
       ·obtain rfl:m=R.length:=by omega
        have HK:=LH (HPm.out HM.out)
        clear HPm HM
        go_wp2
        go_roundw
        case rel=>exact⟨k+1,by omega,by go_num,HK,hQm⟩
        case measure=>simp[intOf];omega
     ·rw[show decide (0<ar)=true by simpa using h1,show (k == 0)=false by simpa using h2]at htu
      exact absurd htu (by decide)
    ·by_cases h2:k=0
     ·rw[show decide (0<ar)=false by simpa using h1,show (k == 0)=true by simpa using h2]at htu
      exact absurd htu (by decide)
     ·have e2:((k:Int) == 0)=false:=by rw[beq_eq_false_iff_ne];omega
      have e3:(k == 0)=false:=by simpa using h2
      have e1:decide (0<ar)=false:=by simpa using h1
      clear htu h2
      go_wp2_with fail
      refine HAk.out.mono ?_
      rintro e w2⟨rfl,hq2⟩
      have hQ2:Q w w2:=Q.trans hQ hq2
      clear HAk
      go_wp2
      go_loopw [22] (fun i wl=>∃ m:Nat,m≤R.length∧i=.int .i64 m∧Hid (∀ j,j<m→zjR R k j=true)∧Q wr wl) (fun i _=>R.length - (intOf i).toNat)
      case atStart=>exact⟨0,by omega,rfl,LH (fun j hj=>absurd hj (Nat.not_lt_zero _)),hq2⟩
      case round =>
       obtain⟨m,hm,rfl,HM,hQn⟩:=hrel
       have hQm:=Q.trans hQ hQn
       by_cases hlm:m<R.length
       ·obtain⟨a',cap',he,hc⟩:=HRI.out _ hQm
        obtain⟨b',o',a3,c3,ha,hcell3,hrow3,hba3⟩:=hc m hlm
        injection he with he1 he2 he3
        subst he3
        rw[ha]at he1
        injection he1 with he1
        injection he1 with he4 he5
        subst he4 he5
        have hmz:(m:Int)<R.length:=by omega
        have hm0:(0:Int)≤m:=by omega
        clear hc ha
        by_cases hmk:m=k
        ·have g1:((m:Int) == (k:Int))=true:=by rw[hmk];simp
         have hl:zjR R k m=true:=by unfold zjR;rw[show (m == k)=true by simpa using hmk];rfl
         have HM2:Hid (∀ j,j<m+1→zjR R k j=true):=LH (fun j hj=>by
          rcases Nat.lt_or_ge j m with h | h
          ·exact HM.out j h
          ·obtain rfl:j=m:=by omega
           exact hl)
         clear hl HM hmk
         go_wp2
         go_roundw
         case rel=>exact⟨m+1,by omega,by go_num,HM2,hQn⟩
         case measure=>simp[intOf];omega
        ·have g1:((m:Int) == (k:Int))=false:=by rw[beq_eq_false_iff_ne];omega
         have g2:¬ (m:Int)=(k:Int):=by omega
         obtain⟨b4,o4,ha2,hc4⟩:=hrow.q hQn 0 hrl
         subst ha2
         have hlf:zjR R k m=(zco (ringAt R m) (zcf (ringAt R k) 0).x (zcf (ringAt R k) 0).y (ringAt R m).length == (m == 0)):=by
          unfold zjR
          rw[show (m == k)=false by simpa using hmk,e3];rfl
         have HM2:Hid (zjR R k m=true→∀ j,j<m+1→zjR R k j=true):=LH (fun hl j hj=>by
          rcases Nat.lt_or_ge j m with h | h
          ·exact HM.out j h
          ·obtain rfl:j=m:=by omega
           exact hl)
         have HNo:=LH (HLk.out m hlm)
         have HIN:=LH (fun W (hq:Q _ W)=>HI.out W m a3 c3 (zcf (ringAt R k) 0).x (zcf (ringAt R k) 0).y hlm (hrow3.q hq) (fun k hk=>Nat.lt_of_lt_of_le (hba3 k hk) hq.size))
         have c40:=hc4 0 _ rfl
         have c41:=hc4 1 _ rfl
         have c42:=hc4 2 _ rfl
         have c43:=hc4 3 _ rfl
         have c44:=hc4 4 _ rfl
         have c45:=hc4 5 _ rfl
         have c46:=hc4 6 _ rfl
         simp only[Nat.zero_mul,Nat.add_zero]at c40 c41 c42 c43 c44 c45 c46
         generalize zco (ringAt R m) (zcf (ringAt R k) 0).x (zcf (ringAt R k) 0).y (ringAt R m).length=inn at *
         generalize zjR R k m=lf at *
         have hrz:(0:Int)<((ringAt R k).length:Int):=by omega
         generalize zcf (ringAt R k) 0=s0 at *
         have HC:=LH (fun w=>zaM s0.x s0.y s0.rise s0.run s0.gable s0.plate s0.over w)
         clear hc4 HM hmk HLk hrow hba hrow3 hba3
         go_wp2_with fail
         refine cx (HC.out _) fun w5 hq5=>?_
         go_wp2_with fail
         refine cx (HIN.out _ hq5) fun w6 hq6=>?_
         have hq56:=Q.trans hQn (Q.trans hq5 hq6)
         have hq06:=Q.trans hQ hq56
         clear HIN HC c40 c41 c42 c43 c44 c45 c46
         by_cases hm0':m=0
         ·have m2:((m:Int) == 0)=true:=by rw[hm0'];rfl
          have m3:(m == 0)=true:=by rw[hm0'];rfl
          rw[m3]at hlf
          clear hm0'
          cases inn
          ·have hp:=HNo.out (by rw[hlf];rfl)
           clear HNo HM2 hlf
           subst hp
           go_wp2
           go_ret
           exact⟨rfl,hq06⟩
          ·have HM3:=LH (HM2.out (by rw[hlf];rfl))
           clear HNo HM2 hlf
           go_wp2
           go_roundw
           case rel=>exact⟨m+1,by omega,by go_num,HM3,hq56⟩
           case measure=>simp[intOf];omega
         ·have m2:((m:Int) == 0)=false:=by rw[beq_eq_false_iff_ne];omega
          have m3:(m == 0)=false:=by rw[beq_eq_false_iff_ne];omega
          rw[m3]at hlf
          clear hm0'
          cases inn
          ·have HM3:=LH (HM2.out (by rw[hlf];rfl))
           clear HNo HM2 hlf
           go_wp2
           go_roundw
           case rel=>exact⟨m+1,by omega,by go_num,HM3,hq56⟩
           case measure=>simp[intOf];omega
          ·have hp:=HNo.out (by rw[hlf];rfl)
           clear HNo HM2 hlf
           subst hp
           go_wp2
           go_ret
           exact⟨rfl,hq06⟩
       ·obtain rfl:m=R.length:=by omega
        have HK:=LH (HPm.out HM.out)
        clear HPm HM
        go_wp2
        go_roundw
        case rel=>exact⟨k+1,by omega,by go_num,HK,hQm⟩
        case measure=>simp[intOf];omega
  ·obtain rfl:k=R.length:=by omega
   have ha:=HY.out HP.out
   clear HY HT HLI HA HI HRI HL0 HP
   subst ha
   go_wp2
   go_ret
   exact⟨rfl,hQ⟩
end
end Go.Proofs.YtapnkgdnflofbaaGreatDoor
namespace Go.Proofs
open Go.Shelf
def Tryz.growSide_ren:Go.Shelf.Ren:=⟨fun | 4=>191 | n=>n,fun | 22=>75 | 25=>82 | 20=>20 | 9=>9 | 3=>3 | 4=>4 | 0=>0 | n=>n,fun | n=>n⟩
theorem Tryz.growSide:Go.Proofs.Lays8.n4 Tryz.prog Tryz.growSide_ren:={
 mixed:=by kernel_rfl
 f4:=⟨Tryz.f191.name,by decide,Tryz.func191.trans (congrArg some (by kernel_rfl))⟩
 t0:=Tryz.underlying0
 a0:=Tryz.isAgg0
 z0:=Tryz.sizeOf0
 v0:=Tryz.zeroValue0
 t3:=Tryz.underlying3
 a3:=Tryz.isAgg3
 z3:=Tryz.sizeOf3
 v3:=Tryz.zeroValue3
 t4:=Tryz.underlying4
 a4:=Tryz.isAgg4
 z4:=Tryz.sizeOf4
 v4:=Tryz.zeroValue4
 t9:=Tryz.underlying9
 a9:=Tryz.isAgg9
 z9:=Tryz.sizeOf9
 v9:=Tryz.zeroValue9
 t20:=Tryz.underlying20
 a20:=Tryz.isAgg20
 z20:=Tryz.sizeOf20
 v20:=Tryz.zeroValue20
 t22:=Tryz.underlying75
 a22:=Tryz.isAgg75
 z22:=Tryz.sizeOf75
 v22:=Tryz.zeroValue75 }
end Go.Proofs
namespace Go.Proofs.YtapnkgdnflofbaaGreatDoor
section
open Go.RowKit Go.Shelf Kp
attribute [local go_sem] Oper.semAt_some
theorem znT:(Tryz.prog.info? 82).map (fun i=>(i.zero,i.size,i.bytes))=some (some (.agg #[.int .i64 0,.int .i64 0,.int .i64 0,.int .i64 0,.bool false,.int .i64 0,.int .i64 0]),7,56):=by kernel_rfl
theorem zo7(n:Nat)(hn:0<n)(hn2:n≤100000)(w:World) :
  Calls Tryz.prog 191 #[.slice none 0 0,.int .i64 n] w fun e w'=>∃ v,e=.returned v∧Q w w'∧w'.ownsRow w.heap.size 82 7 v 0 []∧∃ g cap,v=.slice (some ⟨g,0,none⟩) 0 cap:=by
 obtain⟨i0,hi,hz0,hz1,hz2⟩:=zbU znT
 refine(Any8.slices_Grow_grow Tryz.growSide i0 _ hi hz0 (by rw[hz1];decide) none 0 0 n [] w (Nat.le_refl _) (by omega) (by rw[hz2];omega) (by omega) (by simp) (fun _=>rfl) (fun a h=>by cases h)).mono ?_
 rintro e w'⟨rfl,rfl⟩
 have hcap:Go.grownCap w (0+n) 0 82≤maxLen:=Go.grownCap_le_maxLen w (0+n) 0 _ (by unfold maxLen;omega)
 have hge:0+n≤Go.grownCap w (0+n) 0 82:=Go.grownCap_ge w _ _ _
 refine⟨_,rfl,(Below.refl _ w).drew.alloc (Nat.le_refl _) _,⟨rfl,.inr ⟨w.heap.size,_,_,rfl,Nat.le_refl _,heap_alloc_new w.drew _,Nat.zero_le _,hcap,?_,by simp⟩⟩,_,_,rfl⟩
 rw[Array.size_append,Array.size_append,size_zeroCells,size_zeroCells]
 have e2:(Value.agg #[.int .i64 0,.int .i64 0,.int .i64 0,.int .i64 0,.bool false,.int .i64 0,.int .i64 0]).cells.size=7:=rfl
 rw[e2]
 rw[show Tryz.growSide_ren.t 25=82 from rfl]
 simp only[List.size_toArray,List.length_nil]
 omega
theorem zid(s:Sd):(sdC s).length=7:=rfl
theorem zsu{r:List Sd}:∀ u∈rowOf sdC r,u.oneCell'=true:=fun u hu=>by
 obtain⟨s,-,hs⟩:=List.mem_flatMap.1 hu
 unfold sdC at hs
 simp only[List.mem_cons,List.not_mem_nil,or_false]at hs
 rcases hs with rfl | rfl | rfl | rfl | rfl | rfl | rfl <;> rfl
theorem zci.cells{w:World}{a:Option Addr}{r:List Sd}(h:zci w a r)(hl:0<r.length):∃ b o,a=some ⟨b,o,none⟩∧∀ j u,(rowOf sdC r)[j]? = some u→w.cell? ((⟨b,o,none⟩:Addr).add j)=some u:=by
 obtain⟨b,o,rfl,-⟩:=h 0 hl
 refine⟨b,o,rfl,fun j u hu=>?_⟩
 have hj:j<r.length*7:=by
  rw[← zif zid r]
  exact(List.getElem?_eq_some_iff.1 hu).1
 have hadd:(⟨b,o,none⟩:Addr).add j=⟨b,o+j,none⟩:=by unfold Addr.add;split <;> simp_all
 rw[hadd]
 have hi:j / 7<r.length:=by omega
 obtain⟨b',o',he,hc⟩:=h (j / 7) hi
 cases he
 have hg:=zc0 zid r (j / 7) hi (j % 7) (Nat.mod_lt _ (by decide))
 have e:j / 7*7+j % 7=j:=by omega
 rw[e,hu]at hg
 have h2:=hc (j % 7) u (by rw[zcN hi];exact hg.symm)
 rw[show o+j / 7*7+j % 7=o+j by omega]at h2
 exact h2
theorem zhh(R:List (List Sd))(hl:∀ r∈R,0<r.length)(h0:0<R.flatten.length)(hn:R.flatten.length≤1000)(hR:R.length≤1000)(v:Value)(w:World)(hv:zi9 w v R) :
  Calls Tryz.prog 126 #[v] w fun e w'=>∃ v',e=.returned v'∧Q w w'∧zba 7 sdC w' v' R.flatten:=by
 have HRI:Hid (∀ W,Q w W→∃ a cap,v=.slice a R.length cap∧∀ i,i<R.length→∃ b o a2 c2,a=some ⟨b,o,none⟩∧W.cell? ⟨b,o+i,none⟩=some (.slice a2 (ringAt R i).length c2)∧zci W a2 (ringAt R i)∧∀ k∈zbM a2,k<W.heap.size):=LH (fun W hq=>(hv.keep hq).ring hl)
 have HRW:Hid (∀ i,i<R.length→0<(ringAt R i).length):=LH (fun i hi=>by rw[zaE hi];exact hl _ (List.getElem_mem hi))
 obtain⟨P,hP⟩:∃ P:Nat→List Sd,P=fun k=>(R.take k).flatten:=⟨_,rfl⟩
 have HP0:Hid (P 0=[]):=LH (by rw[hP];rfl)
 have HPs:Hid (∀ k,k<R.length→P (k+1)=P k++ringAt R k):=LH (fun k hk=>by
  rw[hP]
  show (R.take (k+1)).flatten=_
  rw[List.take_succ_eq_append_getElem hk,List.flatten_append,zaE hk];simp)
 have HPe:Hid (P R.length=R.flatten):=LH (by rw[hP];show (R.take R.length).flatten=_;rw[List.take_length])
 have HPl:Hid (∀ k,(P k).length≤1000):=LH (fun k=>by
  rw[hP]
  have:=congrArg (fun l:List (List Sd)=>l.flatten.length) (List.take_append_drop k R)
  simp only[List.flatten_append,List.length_append]at this
  show ((R.take k).flatten).length≤1000
  omega)
 clear hP
 generalize R.flatten=F at *
 have HG:=LH (fun w=>zo7 F.length h0 (by omega) w)
 obtain⟨i0,hi,hz0,hz1,hz2⟩:=zbU znT
 have HI:=LH hi
 have HZ:=LH hz0
 have HS:=LH hz1
 have HBy:=LH hz2
 clear hi hz0 hz1 hz2 hl
 obtain⟨a,cap,rfl,-⟩:=hv
 have hRz:(R.length:Int)≤1000:=by omega
 go_enter Tryz.func126,Tryz.ntmps126
 go_wp2
 go_loop [3,11] (fun sz i=>∃ k:Nat,k≤R.length∧i=.int .i64 k∧sz=.int .i64 ((P k).length:Nat)) (fun _ i=>R.length - (intOf i).toNat)
 case atStart=>exact⟨0,by omega,rfl,by rw[HP0.out];rfl⟩
 case round =>
  obtain⟨k,hk,rfl,rfl⟩:=hrel
  by_cases hlt:k<R.length
  ·obtain⟨a',cap',he,hc⟩:=HRI.out w (Q.refl w)
   obtain⟨b,o,a2,c2,ha,hcell,-,-⟩:=hc k hlt
   injection he with he1 he2 he3
   subst he1 he3
   subst ha
   have hs:=congrArg List.length (HPs.out k hlt)
   rw[List.length_append]at hs
   have hp1:=HPl.out (k+1)
   have HS1:=LH hs
   have w1i:=Go.IntWalk.i64_in (((P k).length:Int)+((ringAt R k).length:Int)) (by omega)
   have hkz:(k:Int)<R.length:=by omega
   have hk0:(0:Int)≤k:=by omega
   clear hc hs hp1
   generalize (P k).length=p at *
   generalize (ringAt R k).length=n at *
   go_wp2
   go_round
   case rel=>exact⟨k+1,by omega,by go_num,by rw[HS1.out];go_num⟩
   case measure=>simp[intOf];omega
  ·obtain rfl:k=R.length:=by omega
   rw[HPe.out]
   go_wp2_with fail
   refine(HG.out _).mono ?_
   rintro e w1⟨v,rfl,hq1,hr1,g1,gc1,rfl⟩
   go_wp2
   go_loopw [6,27] (fun ov i wr=>∃ k:Nat,k≤R.length∧i=.int .i64 k∧Q w wr∧∃ g gc,ov=.slice (some ⟨g,0,none⟩) (P k).length gc∧wr.ownsRow w.heap.size 82 7 ov (P k).length (rowOf sdC (P k))) (fun _ i _=>R.length - (intOf i).toNat)
   case atStart=>exact⟨0,by omega,rfl,hq1,g1,gc1,by rw[HP0.out];rfl,by rw[HP0.out];exact hr1⟩
   case round =>
    obtain⟨k,hk,rfl,hQ,g,gc,rfl,hrow⟩:=hrel
    by_cases hlt:k<R.length
    ·obtain⟨a',cap',he,hc⟩:=HRI.out wr hQ
     obtain⟨b,o,a2,c2,ha,hcell,hrw,-⟩:=hc k hlt
     injection he with he1 he2 he3
     subst he1 he3
     subst ha
     have hrl:=HRW.out k hlt
     obtain⟨b2,o2,rfl,hcl⟩:=hrw.cells hrl
     have HCL:=LH hcl
     have hs:=HPs.out k hlt
     have hsl:=congrArg List.length hs
     rw[List.length_append]at hsl
     have hp1:=HPl.out (k+1)
     have HRo:Hid (rowOf sdC (P (k+1))=rowOf sdC (P k)++rowOf sdC (ringAt R k)):=LH (by rw[hs];unfold rowOf;exact List.flatMap_append)
     have HSl:=LH hsl
     have HLn:=LH (zif zid (ringAt R k))
     have HOne:=LH (zsu (r:=ringAt R k))
     have hle:(P k).length+(ringAt R k).length≤1000:=by omega
     have hkz:(k:Int)<R.length:=by omega
     have hk0:(0:Int)≤k:=by omega
     clear hc hs hsl hp1 hrw hcl
     generalize (P k).length=p at *
     generalize rowOf sdC (P k)=X at *
     generalize (ringAt R k).length=n at *
     generalize rowOf sdC (ringAt R k)=Y at *
     go_wp2_with (at_builtin;refine wpList_append_lies _ (by rfl) (.tmp 31) (.tmp 32) 75 (by rfl) w.heap.size 82 i0 _ 7 56 Tryz.underlying75 HI.out HZ.out HS.out HBy.out rfl (by decide) (.slice (some ⟨g,0,none⟩) p gc) p X (by rfl) hrow ⟨b2,o2,none⟩ n c2 Y (by rfl) HLn.out HCL.out HOne.out hrl (by unfold maxLen;omega) (by omega) hQ.size _ (by rfl) ?_;intro g4 cap4 w4 hown4 hgrow4 hat4 hlt4)
     go_roundw
     case rel=>exact⟨k+1,by omega,by go_num,hQ.grown hgrow4 hQ.size (fun k hk=>(hrow.lt k hk).1),_,_,by rw[HSl.out],by rw[HSl.out,HRo.out];exact hown4⟩
     case measure=>simp[intOf];omega
    ·obtain rfl:k=R.length:=by omega
     rw[HPe.out]at hrow ⊢
     go_wp2
     go_ret
     exact⟨_,rfl,hQ,zba.of_row zid hrow⟩
end
section
open Go.RowKit Go.Shelf Kp
theorem zeA(r:List Sd)(n:Nat):(zik r n).length=r.length:=by unfold zik;rw[List.length_map,List.length_range]
theorem zrk{r:List Sd}{n i:Nat}(h:i<r.length):zch (zik r n) i=(zta (arn r i),n,i):=by
 unfold zch zik
 rw[List.getD_eq_getElem?_getD,List.getElem?_map,List.getElem?_range h];rfl
def zkh(r:List Sd)(k:Nat):Bool:=(List.range k).any fun i=>!(arn r i).o.gable
theorem zop(r:List Sd)(k:Nat):zkh r (k+1)=(zkh r k || !(arn r k).o.gable):=zff _ _
theorem zrB{r:List Sd}(h:∀ i,i<r.length→zkb (arn r i)=true):ziM r=true:=by
 unfold ziM
 rw[List.all_eq_true]
 exact fun i hi=>h i (List.mem_range.1 hi)
theorem zsI{r:List Sd}{i:Nat}(hi:i<r.length)(h:zkb (arn r i)=false):ziM r=false:=by
 rw[Bool.eq_false_iff]
 intro hs
 unfold ziM at hs
 rw[List.all_eq_true]at hs
 have:=hs i (List.mem_range.2 hi)
 rw[h]at this
 exact absurd this (by decide)
end
section
open Go.RowKit Go.Shelf Kp
attribute [local go_sem] Oper.semAt_some
theorem zrZ{r:List Sd}(h:∀ s∈r,Rgd s)(i:Nat)(hi:i<r.length):ArnOk (arn r i):=by
 have hn:0<r.length:=by omega
 have key:∀ j,j<r.length→0≤(zcf r j).x∧(zcf r j).x≤65536∧0≤(zcf r j).y∧(zcf r j).y≤65536:=fun j hj=>by
  have:=h (zcf r j) (by rw[zcN hj];exact List.getElem_mem hj)
  exact⟨this.x0,this.x1,this.y0,this.y1⟩
 exact⟨key _ (Nat.mod_lt _ hn),key _ hi,key _ (Nat.mod_lt _ hn)⟩
end
section
open Go.RowKit Go Kp
def Marks(B:Nat):Nat→List Deferred→World→Prop
 | _,[],_=>True
 | N,d::ds,w=>∃ D,d={ target:=.collected D,args:=#[] }∧B≤D∧D<N∧w.heap[D]? = some (.deferred (some []))∧Marks B D ds w
theorem Marks.mono{B:Nat}{N N':Nat}(hN:N≤N'):∀ {ds:List Deferred} {w:World},Marks B N ds w→Marks B N' ds w
 | [],_,_=>trivial
 | _::_,_,⟨D,h1,h2,h3,h4,h5⟩=>⟨D,h1,h2,Nat.lt_of_lt_of_le h3 hN,h4,h5⟩
theorem Marks.keep{B:Nat}{w w':World}(hk:KeepsFrom B w w'):∀ {N:Nat} {ds:List Deferred},Marks B N ds w→Marks B N ds w'
 | _,[],_=>trivial
 | _,_::_,⟨D,h1,h2,h3,h4,h5⟩=>⟨D,h1,h2,h3,hk.same D _ h2 h4 rfl,Marks.keep hk h5⟩
theorem Marks.put{B:Nat}{w:World}{D:Nat}(o:Obj):∀ {N:Nat} {ds:List Deferred},N≤D→Marks B N ds w→Marks B N ds (w.putObj D o)
 | _,[],_,_=>trivial
 | _,_::_,hN,⟨D',h1,h2,h3,h4,h5⟩=>⟨D',h1,h2,h3,by rw[World.putObj_heap_other (by omega)];exact h4,Marks.put o (by omega) h5⟩
theorem zb0{F:Fence}{n:Nat}{P:Program}{fn:Func}{tmps:Array Value}{R:Ending→World→Prop}{B:Nat}:∀ (ds:List Deferred) (N:Nat) (w:World),Marks B N ds w →
  (∀ w',KC w w'→Below B w w'→∃ v,(results fn tmps).run P w'=.ok v w'∧R (.returned v) w')→LeavesInM F n P fn tmps R ds .returning w
 | [],_,w,_,h=>by
  obtain⟨v,hr,hR⟩:=h w ⟨Nat.le_refl _,fun _ _ _ _ h=>h⟩ (Below.refl _ _)
  exact⟨v,hr,hR⟩
 | d::ds,_,w,⟨D,h1,h2,h3,h4,h5⟩,h=>by
  subst h1
  refine⟨by simp,.inl ⟨D,_,rfl,run_takeDeferred h4,?_⟩⟩
  have kc:=KC.put (.deferred none) h4 rfl
  have hb:=zaQ h2 h4 (.deferred none)
  exact zb0 ds D _ (h5.put _ (Nat.le_refl _)) (fun w' k b=>h w' (kc.trans k) (Below.trans hb b))
end
end Go.Proofs.YtapnkgdnflofbaaGreatDoor
