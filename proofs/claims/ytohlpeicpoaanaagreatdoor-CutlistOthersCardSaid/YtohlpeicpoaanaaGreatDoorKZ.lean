/-
  Walks of package kingpostref42: put.; Walks of package kingpostref42: Split.; Walks of package kingpostref42: Sections.; The law CutlistOthers: its walk.
-/
import Derived.Test.YtohlpeicpoaanaaGreatDoorKD
import Derived.Test.YtohlpeicpoaanaaGreatDoorCU
namespace Go.Proofs.YtohlpeicpoaanaaGreatDoor
set_option maxHeartbeats 8000000
section
open Go.RowKit Kp Go.Sort
theorem beh_neg {x y z:Ct} (h:behF z x=true):behF z y=true∨behF y x=true:=by
 have h1:=(beh_iff _ _).1 h
 rw [beh_iff,beh_iff]
 omega
theorem beh_asym {x y:Ct} (h:behF x y=true):behF y x=false:=by
 cases h2:behF y x with
 | false=>rfl
 | true=>exact absurd (beh_trans _ _ _ h h2) (beh_irr _)
def insP (x:CV) (L:List CV):List CV:=L.takeWhile (fun y=>behF y.1 x.1)++x::L.dropWhile (fun y=>behF y.1 x.1)
abbrev srtP (L:List CV):Prop:=L.Pairwise (fun x y=>behF y.1 x.1=false)
theorem insP_perm (x:CV) (L:List CV):(insP x L).Perm (x::L):=by
 unfold insP
 refine List.perm_middle.trans ?_
 rw [List.takeWhile_append_dropWhile]
theorem drop_head {α:Type} {p:α→Bool}:∀ (L:List α) {z:α} {r:List α},L.dropWhile p=z::r→p z=false
 | [],_,_,h=>by cases h
 | a::L,z,r,h=>by
  rw [List.dropWhile_cons] at h
  split at h
  ·exact drop_head L h
  ·rename_i hn
   injection h with h1 h2
   subst h1
   simpa using hn
theorem mem_tw {α:Type} {p:α→Bool}:∀ (L:List α) {y:α},y∈L.takeWhile p→p y=true
 | [],_,h=>by simp at h
 | a::L,y,h=>by
  rw [List.takeWhile_cons] at h
  split at h
  ·rename_i ha
   rcases List.mem_cons.1 h with rfl | h
   ·exact ha
   ·exact mem_tw L h
  ·simp at h
theorem insP_srt {x:CV} {L:List CV} (h:srtP L):srtP (insP x L):=by
 have e:=List.takeWhile_append_dropWhile (p:=fun y:CV=>behF y.1 x.1) (l:=L)
 unfold insP srtP at *
 have h':=h
 rw [← e,List.pairwise_append] at h'
 obtain ⟨h1,h2,h3⟩:=h'
 have ht:∀ y∈L.takeWhile (fun y:CV=>behF y.1 x.1),behF y.1 x.1=true:=fun y hy=>by
  have:=mem_tw L hy
  simpa using this
 have hd:∀ z∈L.dropWhile (fun y:CV=>behF y.1 x.1),behF z.1 x.1=false:=fun z hz=>by
  cases hc:L.dropWhile (fun y:CV=>behF y.1 x.1) with
  | nil=>rw [hc] at hz; cases hz
  | cons z0 r =>
   have h0:behF z0.1 x.1=false:=drop_head L hc
   rw [hc] at hz h2
   rcases List.mem_cons.1 hz with rfl | hz
   ·exact h0
   ·have h4:=(List.pairwise_cons.1 h2).1 z hz
    cases h5:behF z.1 x.1 with
    | false=>rfl
    | true =>
     rcases beh_neg (y:=z0.1) h5 with h6 | h6
     ·rw [h4] at h6; cases h6
     ·rw [h0] at h6; cases h6
 rw [List.pairwise_append]
 refine ⟨h1,List.pairwise_cons.2 ⟨hd,h2⟩,fun y hy z hz=>?_⟩
 rcases List.mem_cons.1 hz with rfl | hz
 ·exact beh_asym (ht y hy)
 ·exact h3 y hy z hz
def insN (x:CV) (L:List CV):Nat:=(L.takeWhile (fun y=>behF y.1 x.1)).length
theorem insP_eq (x:CV) (L:List CV):insP x L=L.take (insN x L)++x::L.drop (insN x L):=by
 have e:=List.takeWhile_append_dropWhile (p:=fun y:CV=>behF y.1 x.1) (l:=L)
 unfold insP insN
 have h1:L.take (L.takeWhile (fun y:CV=>behF y.1 x.1)).length=L.takeWhile (fun y:CV=>behF y.1 x.1):=by
  conv=>lhs; arg 2; rw [← e]
  exact List.take_left
 have h2:L.drop (L.takeWhile (fun y:CV=>behF y.1 x.1)).length=L.dropWhile (fun y:CV=>behF y.1 x.1):=by
  conv=>lhs; arg 2; rw [← e]
  exact List.drop_left
 rw [h1,h2]
theorem insN_of {x:CV}:∀ {L:List CV} {k:Nat} (hk:k≤L.length),(∀ j (h:j<k),behF (L[j]'(by omega)).1 x.1=true)→(∀ h:k<L.length,behF L[k].1 x.1=false)→insN x L=k
 | [],k,hk,_,_=>by simp at hk; subst hk; rfl
 | a::L,0,_,_,h=>by
  have:=h (by simp)
  simp only [List.getElem_cons_zero] at this
  unfold insN
  rw [List.takeWhile_cons,this]; rfl
 | a::L,k+1,hk,h1,h2=>by
  have h0:=h1 0 (by omega)
  simp only [List.getElem_cons_zero] at h0
  have ih:=insN_of (x:=x) (L:=L) (k:=k) (by simpa using hk) (fun j hj=>by have:=h1 (j+1) (by omega); simpa using this) (fun h=>by have:=h2 (by simp; omega); simpa using this)
  unfold insN at *
  rw [List.takeWhile_cons,h0]
  simp [ih]
theorem ownsRow_low {w:World} {B B' size n:Nat} {e:TypeId} {v:Value} {xs:List Value} (h:w.ownsRow B e size v n xs) (hB:B'≤B):w.ownsRow B' e size v n xs:=by
 refine ⟨h.1,h.2.elim .inl ?_⟩
 rintro ⟨g,cap,cur,hv,hg,r⟩
 exact .inr ⟨g,cap,cur,hv,Nat.le_trans hB hg,r⟩
theorem opwp_append_at {P:Program} (w:World) {o:Oper} {a:Act} {K:Act→World→Prop} {R:Exit→Act→World→Prop} (s x:Operand) (t:TypeId)
  (ho:o.op=.call { callee:=.builtin .append,args:=#[s,x],argTypes:=#[t,t] })
  (base:Nat) (e:TypeId) (i:TypeInfo) (z:Value) (size bytes:Nat) (ht:P.underlying t=some (.slice e)) (hi:P.info? e=some i) (hz:i.zero=some z)
  (hsize:i.size=size) (hby:i.bytes=bytes) (hzs:z.cells.size=size) (hsz:0<size)
  (v:Value) (n:Nat) (xs:List Value) (hs:a.eval s=v) (hown:w.ownsRow base e size v n xs)
  (ad:Addr) (m c:Nat) (news:List Value) (hx:a.eval x=.slice (some ad) m c) (hl:news.length=m*size) (hnews:∀ j u,news[j]? = some u→w.cell? (ad.add j)=some u) (h1:∀ u∈news,u.oneCell'=true)
  (h63:n+m≤maxLen) (hbytes:(n+m)*bytes≤140737488355328) (hbase:base≤w.heap.size)
  (h:∀ v' w',w'.ownsRow base e size v' (n+m) (xs++news)→w.grownBy w' v.ownBlock→K (a.put o.dst v') w'):Oper.wp P o a w K R:=by
 obtain ⟨v',w',hr,h2,h3,h4,h5⟩:=run_append_own_at (P:=P) w base t o.type e i z size bytes ht hi hz hsize hby hzs hsz v n xs hown ad m c news hl hnews h1 h63 hbytes hbase
 unfold Oper.wp execOp
 simp only [ho,resolve,invoke,builtin,Sem.run_bind,Sem.run_pure,Result.andThen_ok,List.map_toArray,List.map_cons,List.map_nil,hs,hx,hr]
 exact h v' w' h2 h3
theorem RF.steadily_make {ρ:QRel} {P:Program} {l:List Oper} {R:Exit→Act→World→Prop} {md:Region.Mode} {n i:Nat} {oi:Oper} {f:Nat} {ls:Array Bool} {a:Act} {w:World} (val:World→Value) (o:Obj) (hi:l[i]? = some oi) (hin:decide (i<n)=true)
  (hr:Region.ready md l.toArray ls=[i]) (hw:Region.wanted oi (yielded l.toArray a.tmps)=true)
  (hx:∀ w',Q w w'→(execOp a.eval oi).run P w'=.ok (.value (val w')) (w'.alloc o))
  (h:∀ w',Q w w'→RF.Steadily ρ P md l R n f (ls.setIfInBounds i true) (a.put oi.dst (val w')) (w'.alloc o)):RF.Steadily ρ P md l R n (f+1) ls a w :=
 RF.steadily_one hi hin hr hw fun w' hq K hK=>by
  unfold Oper.wp
  rw [hx w' hq]
  exact hK _ _ (ρ.q ((Below.refl _ _).alloc (Nat.le_refl _) _)) (h w' hq)
theorem rowP_get (L:List CV) {W:World} {b o:Nat} (hc:∀ i (h:i<L.length) j u,(cvC L[i])[j]? = some u→W.cell? ⟨b,o+i*4+j,none⟩=some u) (f t:Nat) (hf:f+t≤L.length):∀ j u,(rowOf cvC ((L.drop f).take t))[j]? = some u→W.cell? ⟨b,o+f*4+j,none⟩=some u:=by
 intro j u hj
 have hl:((L.drop f).take t).length=t:=by rw [List.length_take,List.length_drop]; omega
 have hjl:j<t*4:=by
  have:=(List.getElem?_eq_some_iff.1 hj).1
  rw [rowOf_len (k:=4) cvC_len,hl] at this; exact this
 have hd:j / 4<t:=by omega
 have e:j=j / 4*4+j % 4:=by omega
 rw [e,rowOf_get cvC_len _ _ (by rw [hl]; exact hd) _ (by omega)] at hj
 rw [List.getElem_take,List.getElem_drop] at hj
 have:=hc (f+j / 4) (by omega) (j % 4) u hj
 rw [show o+f*4+j=o+(f+j / 4)*4+j % 4 by omega]
 exact this
theorem rowP_one (L:List CV) (hs:∀ p∈L,∃ a n c,p.2=.slice a n c):∀ u∈rowOf cvC L,u.oneCell'=true:=by
 intro u hu
 unfold rowOf at hu
 obtain ⟨p,hm,hp⟩:=List.mem_flatMap.1 hu
 simp only [cvC,ctC,List.mem_cons,List.not_mem_nil,or_false] at hp
 rcases hp with rfl | rfl | rfl | rfl
 ·rfl
 ·rfl
 ·rfl
 ·obtain ⟨a,n,c,h⟩:=hs p hm
  rw [h]; rfl
set_option maxRecDepth 100000 in
theorem ref_put (L:List CV) (hL:L.length≤1000000) (x:CV) (b o cap:Nat) (hcap:L.length≤cap) (w:World) (hrow:RowSl 4 cvC w (.slice (some ⟨b,o,none⟩) L.length cap) L) (hF:∀ p∈L,Fst w p.2 (atI p.1.ms 0)) (hx:Fst w x.2 (atI x.1.ms 0)) :
  Calls Tryz.prog 41 #[.slice (some ⟨b,o,none⟩) L.length cap,.agg (cvC x).toArray] w fun e w'=>∃ v',e=.returned v'∧w'.ownsRow w.heap.size 42 4 v' (L.length+1) (rowOf cvC (insP x L))∧Q w w':=by
 obtain ⟨c0,ci,cz0,cz1,cz2⟩:=info_parts infoCutY
 have HC:Hid (∀ W,Q w W→∀ i (h:i<L.length) j u,(cvC L[i])[j]? = some u→W.cell? ⟨b,o+i*4+j,none⟩=some u):=LH (fun W hq i hi j u hu=>by
  obtain ⟨a',cap',he,hc⟩:=hrow
  injection he with e1 e2 e3
  obtain ⟨b',o',ha,-,h⟩:=hc i hi
  rw [← e1] at ha
  injection ha with ha
  injection ha with q1 q2
  subst q1 q2
  exact qcell hq (h j u hu))
 have HF:Hid (∀ W,Q w W→∀ i (h:i<L.length),Fst W L[i].2 (atI L[i].1.ms 0)):=LH (fun W hq i hi=>(hF _ (List.getElem_mem hi)).keep hq)
 have HX:Hid (∀ W,Q w W→Fst W x.2 (atI x.1.ms 0)):=LH (fun W hq=>hx.keep hq)
 have HN:Hid (∀ k,k≤L.length→(∀ j (h:j<k) (hj:j<L.length),behF L[j].1 x.1=true)→(∀ h:k<L.length,behF L[k].1 x.1=false)→insP x L=L.take k++x::L.drop k):=LH (fun k hk h1 h2=>by
  rw [insP_eq,insN_of hk (fun j h=>h1 j h (by omega)) h2])
 have HSl:Hid (∀ p∈L,∃ a n c,p.2=.slice a n c):=LH (fun p hp=>by
  obtain ⟨b,o,n,cap,h,-⟩:=hF p hp
  exact ⟨_,_,_,h⟩)
 obtain ⟨xa,xn,xc,hxu⟩:∃ a n c,x.2=.slice a n c:=by
  obtain ⟨b,o,n,cap,h,-⟩:=hx
  exact ⟨_,_,_,h⟩
 have HXu:=LH hxu
 clear hxu
 have hLz:(L.length:Int)≤1000000:=by omega
 have hcz:(L.length:Int)≤cap:=by omega
 clear hrow hF hx
 obtain ⟨⟨x1,x2,x3,xm⟩,xu⟩:=x
 simp only [cvC,ctC]
 have BX:=Blk.new w [.int .i64 x1,.int .i64 x2,.int .i64 x3,xu] 42
 have hq0:Q w (w.alloc (.cells [.int .i64 x1,.int .i64 x2,.int .i64 x3,xu].toArray 42)):=(Below.refl _ w).alloc (Nat.le_refl _) _
 have hs0:w.heap.size+1≤(w.alloc (.cells [.int .i64 x1,.int .i64 x2,.int .i64 x3,xu].toArray 42)).heap.size:=by simp
 go_enter Tryz.func41,Tryz.ntmps41
 go_wp2_with fail
 go_loopw [5] (fun i wr=>∃ k:Nat,k≤L.length∧i=.int .i64 k∧Hid (∀ j (h:j<k) (hj:j<L.length),behF L[j].1 ⟨x1,x2,x3,xm⟩=true)∧Blk wr w.heap.size [.int .i64 x1,.int .i64 x2,.int .i64 x3,xu] 42∧Q w wr∧w.heap.size+1≤wr.heap.size) (fun i _=>L.length - (intOf i).toNat)
 case atStart=>exact ⟨0,by omega,rfl,LH (fun j h=>absurd h (Nat.not_lt_zero _)),BX,hq0,hs0⟩
 case round =>
  clear BX hq0 hs0
  obtain ⟨k,hk,rfl,HB,BX,hQ,hsz⟩:=hrel
  by_cases hlt:k<L.length
  ·have hkz:(k:Int)<L.length:=by omega
   have hk0':(0:Int)≤k:=by omega
   obtain ⟨⟨⟨y1,y2,y3,ym⟩,yu⟩,hy⟩:∃ y,L[k]=y:=⟨_,rfl⟩
   have e0:wr.cell? ⟨b,o+k*4,none⟩=some (.int .i64 y1):=HC.out wr hQ k hlt 0 _ (by rw [hy]; rfl)
   have e1:wr.cell? ⟨b,o+k*4+1,none⟩=some (.int .i64 y2):=HC.out wr hQ k hlt 1 _ (by rw [hy]; rfl)
   have e2:wr.cell? ⟨b,o+k*4+2,none⟩=some (.int .i64 y3):=HC.out wr hQ k hlt 2 _ (by rw [hy]; rfl)
   have e3:wr.cell? ⟨b,o+k*4+3,none⟩=some yu:=HC.out wr hQ k hlt 3 _ (by rw [hy]; rfl)
   have t0:=BX.cell 0
   have t1:=BX.cell 1
   have t2:=BX.cell 2
   have t3:=BX.cell 3
   simp only [zs4,zs5] at t0 t1 t2 t3
   have HOq:Hid (∀ w',Q wr.drew w'→Calls Tryz.prog 27 #[.agg #[.int .i64 y1,.int .i64 y2,.int .i64 y3,yu],.agg #[.int .i64 x1,.int .i64 x2,.int .i64 x3,xu]] w' fun e w''=>e=.returned (.bool (behF ⟨y1,y2,y3,ym⟩ ⟨x1,x2,x3,xm⟩))∧Q w' w''):=LH (fun w' hq=>by
    have hqq:Q w w':=Q.trans hQ (Q.trans (Below.drew (Q.refl _)) hq)
    have h1:=HF.out w' hqq k hlt
    rw [hy] at h1
    exact ref_behind ⟨y1,y2,y3,ym⟩ ⟨x1,x2,x3,xm⟩ yu xu w' h1 (HX.out w' hqq))
   cases hbh:behF ⟨y1,y2,y3,ym⟩ ⟨x1,x2,x3,xm⟩
   ·rw [hbh] at HOq
    have HIns:=LH (HN.out k hk HB.out (fun h=>by rw [hy]; exact hbh))
    go_wp2_with fail
    refine wp_steadily 12 rfl (by kernel_rfl) rfl ?_
    refine svp 0 ?_
    refine svp 1 ?_
    refine svp 2 ?_
    refine svp 3 ?_
    refine svp 4 ?_
    refine svp 5 ?_
    refine svp 6 ?_
    refine svp 7 ?_
    refine svq 8 rfl (by intro w' hq; have hc0:=qcell hq e0; have hc1:=qcell hq e1; have hc2:=qcell hq e2; have hc3:=qcell hq e3; go_simp; try with_reducible rfl) ?_
    refine svq 9 rfl (by intro w' hq; have hc0:=qcell hq t0; have hc1:=qcell hq t1; have hc2:=qcell hq t2; have hc3:=qcell hq t3; go_simp; try with_reducible rfl) ?_
    refine steadily_call (i:=10) (v:=_) rfl rfl (by kernel_rfl) (by kernel_rfl) (fun _ _ _ h=>h) (by rfl) ?_ (fun w' hq=>HOq.out w' hq) ?_
    ·(intro w' hq; go_simp; try with_reducible rfl)
    simp only [Act.put,zs1,zs2,zs3]
    refine svp 11 ?_
    refine steadily_done (by kernel_rfl) (fun w3 hq3=>?_)
    simp only [List.drop_succ_cons,List.drop_nil]
    have hqq:Q wr w3:=Q.trans (Below.drew (Q.refl _)) hq3
    have hQ3:=Q.trans hQ hqq
    have BX3:=BX.keep hqq BX.lt
    have hsz3:=Nat.le_trans hsz hqq.size
    clear e0 e1 e2 e3 t0 t1 t2 t3 HOq BX hsz hQ hqq hq3 hy hbh
    have hown0:(w3.alloc (.cells #[] 42)).ownsRow (w.heap.size+1) 42 4 (.slice (some ⟨w3.heap.size,0,none⟩) 0 0) 0 []:=⟨rfl,.inr ⟨w3.heap.size,0,#[],rfl,hsz3,Blk.new w3 [] 42,Nat.le_refl _,by unfold maxLen; omega,rfl,rfl⟩⟩
    have hlt0:=fun j hj=>(hown0.lt j hj).1
    have HR1:Hid (∀ j u,(rowOf cvC (L.take k))[j]? = some u→(w3.alloc (.cells #[] 42)).cell? ((⟨b,o,none⟩:Addr).add j)=some u):=LH (fun j u hj=>by
     have h:=rowP_get L (HC.out w3 hQ3) 0 k (by omega) j u (by rw [List.drop_zero]; exact hj)
     rw [Addr.add_lit]
     rw [Nat.zero_mul,Nat.add_zero] at h
     exact qcell ((Below.refl _ w3).alloc (Nat.le_refl _) _) h)
    have HL1:Hid ((rowOf cvC (L.take k)).length=k*4):=LH (by rw [rowOf_len (k:=4) cvC_len,List.length_take]; congr 1; omega)
    have HO1:Hid (∀ u∈rowOf cvC (L.take k),u.oneCell'=true):=LH (rowP_one _ (fun p hp=>HSl.out p (List.mem_of_mem_take hp)))
    have HO2:Hid (∀ u∈rowOf cvC (L.drop k),u.oneCell'=true):=LH (rowP_one _ (fun p hp=>HSl.out p (List.mem_of_mem_drop hp)))
    have HL2:Hid ((rowOf cvC (L.drop k)).length=(L.length - k)*4):=LH (by rw [rowOf_len (k:=4) cvC_len,List.length_drop])
    have hkc:(k:Int)≤cap:=by omega
    have hkl:(k:Int)≤L.length:=by omega
    have hk0:(0:Int)≤k:=by omega
    obtain ⟨ad,had,hadc⟩:∃ ad:Addr,(if cap=k then (some ⟨b,o,none⟩:Option Addr) else some ⟨b,o+k*4,none⟩)=some ad∧∀ W,Q w W→∀ j u,(rowOf cvC (L.drop k))[j]? = some u→W.cell? (ad.add j)=some u:=by
     by_cases hck:cap=k
     ·refine ⟨⟨b,o,none⟩,by rw [if_pos hck],fun W hq j u hj=>?_⟩
      rw [List.drop_eq_nil_of_le (by omega)] at hj
      simp [rowOf] at hj
     ·refine ⟨⟨b,o+k*4,none⟩,by rw [if_neg hck],fun W hq j u hj=>?_⟩
      have h:=rowP_get L (HC.out W hq) k (L.length - k) (by omega) j u (by rw [List.take_of_length_le (by rw [List.length_drop]; omega)]; exact hj)
      rw [Addr.add_lit]
      exact h
    have HAd:=LH hadc
    clear hadc HC HF HX HN HB
    go_wp2_with (at_builtin; refine wpList_append_own_at _ rfl (.tmp 21) (.tmp 24) 22 rfl (w.heap.size+1) 42 c0 _ 4 48 Tryz.underlying22 ci cz0 cz1 cz2 rfl (by decide) _ 0 [] rfl hown0 ⟨b,o,none⟩ k cap (rowOf cvC (L.take k)) rfl HL1.out HR1.out HO1.out (by unfold maxLen; omega) (by omega) (by simp; omega) ?_)
    intro o1 w4 hown1 hgrow1 _ _
    have hq34:Below (w.heap.size+1) w3 w4:=((Below.refl _ _).alloc hsz3 _).grown hgrow1 (by simp; omega) hlt0
    have BX4:=BX3.keep hq34 (Nat.lt_succ_self _)
    have hQ4:Q w w4:=Below.trans hQ3 (hq34.mono (Nat.le_succ _))
    have hsz4:=Nat.le_trans hsz3 hq34.size
    have BX4d:Blk w4.drew w.heap.size [.int .i64 x1,.int .i64 x2,.int .i64 x3,xu] 42:=BX4
    have hsz4d:w.heap.size+1≤w4.drew.heap.size:=hsz4
    have hown1':w4.drew.ownsRow (w.heap.size+1) 42 4 o1 k (rowOf cvC (L.take k)):=hown1
    clear HR1 HL1 HO1 hown0 hlt0 hgrow1 hq34 BX3 hQ3 hsz3 hown1
    go_wp2_with fail
    refine RF.wp_steadily (ρ:=lowR (w.heap.size+1)) 7 rfl (by kernel_rfl) rfl ?_
    refine RF.svq 0 rfl (by intro w' hq; go_simp; try with_reducible rfl) ?_
    refine RF.steadily_value (i:=1) (v:=.agg #[.int .i64 x1,.int .i64 x2,.int .i64 x3,xu]) rfl rfl (by kernel_rfl) (by kernel_rfl) (fun _ _ _ h=>h) (by rfl) (fun w' hq=>?_) ?_
    ·have hB:=BX4d.keep (hq hsz4d) (Nat.lt_succ_self _)
     have t0:=hB.cell 0
     have t1:=hB.cell 1
     have t2:=hB.cell 2
     have t3:=hB.cell 3
     simp only [zs4,zs5] at t0 t1 t2 t3
     go_simp; try with_reducible rfl
    simp only [Act.put,zs1,zs2,zs3]
    refine RF.svq 4 rfl (by intro w' hq; go_simp; try with_reducible rfl) ?_
    refine RF.svq 5 rfl (by intro w' hq; go_simp; try with_reducible rfl) ?_
    refine RF.steadily_value (i:=6) (v:=.slice (some ad) (L.length - k) (cap - k)) rfl rfl (by kernel_rfl) (by kernel_rfl) (fun _ _ _ h=>h) (by rfl) (fun w' hq=>?_) ?_
    ·rw [← had]
     go_simp; try with_reducible rfl
    simp only [Act.put,zs1,zs2,zs3]
    refine RF.steadily_make (i:=2) (fun w'=>.slice (some ⟨w'.heap.size,0,none⟩) 1 1) (.cells #[.int .i64 x1,.int .i64 x2,.int .i64 x3,xu] 42) rfl rfl (by kernel_rfl) (by rfl) (fun w' hq=>?_) (fun w5 hq5=>?_)
    ·go_simp
    simp only [Act.put,zs1,zs2,zs3]
    have B5:=Blk.new w5 [.int .i64 x1,.int .i64 x2,.int .i64 x3,xu] 42
    have hq5a:Q w5 (w5.alloc (.cells [.int .i64 x1,.int .i64 x2,.int .i64 x3,xu].toArray 42)):=(Below.refl _ w5).alloc (Nat.le_refl _) _
    have hq45:Q w4 (w5.alloc (.cells [.int .i64 x1,.int .i64 x2,.int .i64 x3,xu].toArray 42)):=Q.trans (Below.drew (Q.refl w4)) (Q.trans hq5 hq5a)
    have how5:=ownsRow_keep hown1' (Q.trans hq5 hq5a)
    refine RF.steadily_one (i:=3) rfl rfl (by kernel_rfl) (by rfl) (fun w6 hq6 K hK=>?_)
    have B6:=B5.keep hq6 B5.lt
    have how6:=ownsRow_keep how5 hq6
    have hQ6:=Q.trans hQ4 (Q.trans hq45 hq6)
    have hsz6:=Nat.le_trans hsz4 (Q.trans hq45 hq6).size
    refine opwp_append_at w6 (.tmp 26) (.tmp 28) 22 rfl (w.heap.size+1) 42 c0 _ 4 48 Tryz.underlying22 ci cz0 cz1 cz2 rfl (by decide) o1 k (rowOf cvC (L.take k)) rfl how6 ⟨w5.heap.size,0,none⟩ 1 1 [.int .i64 x1,.int .i64 x2,.int .i64 x3,xu] rfl rfl (fun j z hj=>by rw [Addr.add_lit,Nat.zero_add]; exact (B6.cell j).trans hj) (by
     intro z hz
     simp only [List.mem_cons,List.not_mem_nil,or_false] at hz
     rcases hz with rfl | rfl | rfl | rfl
     ·rfl
     ·rfl
     ·rfl
     ·rw [HXu.out]; rfl) (by unfold maxLen; omega) (by omega) hsz6 (fun o2 w7 hown7 hgrow7=>hK _ _ (fun hb=>(Below.refl _ _).grown hgrow7 hb (fun j hj=>(how6.lt j hj).1)) ?_)
    simp only [Act.put,zs1,zs2,zs3]
    have hq67:Below (w.heap.size+1) w6 w7:=(Below.refl _ _).grown hgrow7 hsz6 (fun j hj=>(how6.lt j hj).1)
    refine RF.steadily_done (by kernel_rfl) (fun w8 hq8=>?_)
    have hown8:=ownsRow_keep hown7 hq8
    have hQ8:Q w w8:=Below.trans (Below.trans hQ6 (hq67.mono (Nat.le_succ _))) (hq8.mono (Nat.le_trans hQ6.size hq67.size))
    have hsz8:=Nat.le_trans (Nat.le_trans hsz6 hq67.size) hq8.size
    simp only [List.drop_succ_cons,List.drop_zero]
    clear hq5 hq5a hq45 how5 hown7 hgrow7 hq67 hq8 B5 B6 how6 hQ6 hsz6 BX4 BX4d hsz4d hown1' hQ4 hsz4
    go_wp2_with (at_builtin; refine wpList_append_own_at _ rfl (.tmp 29) (.tmp 32) 22 rfl (w.heap.size+1) 42 c0 _ 4 48 Tryz.underlying22 ci cz0 cz1 cz2 rfl (by decide) _ (k+1) _ rfl hown8 ad (L.length - k) (cap - k) (rowOf cvC (L.drop k)) rfl HL2.out (HAd.out w8 hQ8) HO2.out (by unfold maxLen; omega) (by omega) hsz8 ?_)
    intro o3 w9 hown9 hgrow9 _ _
    have hQ9:Q w w9:=Below.trans hQ8 (((Below.refl _ _).grown hgrow9 hsz8 (fun j hj=>(hown8.lt j hj).1)).mono (Nat.le_succ _))
    have HO9:Hid (w9.ownsRow w.heap.size 42 4 o3 (L.length+1) (rowOf cvC (insP (⟨x1,x2,x3,xm⟩,xu) L))):=LH (by
     have h:=ownsRow_low hown9 (Nat.le_succ _)
     rw [show k+1+(L.length - k)=L.length+1 by omega] at h
     rw [HIns.out]
     have e:rowOf cvC (L.take k++((⟨x1,x2,x3,xm⟩:Ct),xu)::L.drop k)=rowOf cvC (L.take k)++.int .i64 x1::.int .i64 x2::.int .i64 x3::xu::rowOf cvC (L.drop k):=by
      unfold rowOf; rw [List.flatMap_append,List.flatMap_cons]; rfl
     rw [e]; exact h)
    clear hown9 hgrow9 hown8 HIns HAd HO2 HL2 hQ8
    go_wp2
    go_ret
    exact ⟨_,rfl,HO9.out,hQ9⟩
   ·rw [hbh] at HOq
    have HB2:Hid (∀ j (h:j<k+1) (hj:j<L.length),behF L[j].1 ⟨x1,x2,x3,xm⟩=true):=LH (fun j h hj=>by
     rcases Nat.lt_or_ge j k with h1 | h1
     ·exact HB.out j h1 hj
     ·obtain rfl:j=k:=by omega
      rw [hy]; exact hbh)
    go_wp2_with fail
    refine wp_steadily 12 rfl (by kernel_rfl) rfl ?_
    refine svp 0 ?_
    refine svp 1 ?_
    refine svp 2 ?_
    refine svp 3 ?_
    refine svp 4 ?_
    refine svp 5 ?_
    refine svp 6 ?_
    refine svp 7 ?_
    refine svq 8 rfl (by intro w' hq; have hc0:=qcell hq e0; have hc1:=qcell hq e1; have hc2:=qcell hq e2; have hc3:=qcell hq e3; go_simp; try with_reducible rfl) ?_
    refine svq 9 rfl (by intro w' hq; have hc0:=qcell hq t0; have hc1:=qcell hq t1; have hc2:=qcell hq t2; have hc3:=qcell hq t3; go_simp; try with_reducible rfl) ?_
    refine steadily_call (i:=10) (v:=_) rfl rfl (by kernel_rfl) (by kernel_rfl) (fun _ _ _ h=>h) (by rfl) ?_ (fun w' hq=>HOq.out w' hq) ?_
    ·(intro w' hq; go_simp; try with_reducible rfl)
    simp only [Act.put,zs1,zs2,zs3]
    refine svp 11 ?_
    refine steadily_done (by kernel_rfl) (fun w3 hq3=>?_)
    simp only [List.drop_succ_cons,List.drop_nil]
    have hqq:Q wr w3:=Q.trans (Below.drew (Q.refl _)) hq3
    have hQ3:=Q.trans hQ hqq
    have BX3:=BX.keep hqq BX.lt
    have hsz3:=Nat.le_trans hsz hqq.size
    clear e0 e1 e2 e3 t0 t1 t2 t3 HOq BX hsz hQ hqq hq3 hy hbh HB HC HF HX HN HSl
    go_wp2
    go_roundw
    case rel=>exact ⟨k+1,by omega,by go_num,HB2,BX3,hQ3,hsz3⟩
    case measure=>simp [intOf]; omega
  ·have HIns:=LH (HN.out k hk HB.out (fun h=>absurd h hlt))
   have hkn:¬ (k:Int)<L.length:=by omega
   go_wp2_with fail
   refine wp_steadily 12 rfl (by kernel_rfl) rfl ?_
   refine svp 0 ?_
   refine svp 1 ?_
   refine svp 2 ?_
   refine svp 3 ?_
   refine svp 4 ?_
   refine sid 5 ?_
   refine sid 6 ?_
   refine sid 7 ?_
   refine sid 8 ?_
   refine sid 9 ?_
   refine sid 10 ?_
   refine svp 11 ?_
   refine steadily_done (by kernel_rfl) (fun w3 hq3=>?_)
   simp only [List.drop_succ_cons,List.drop_nil]
   have hqq:Q wr w3:=Q.trans (Below.drew (Q.refl _)) hq3
   have hQ3:=Q.trans hQ hqq
   have BX3:=BX.keep hqq BX.lt
   have hsz3:=Nat.le_trans hsz hqq.size
   clear BX hsz hQ hqq hq3
   have hown0:(w3.alloc (.cells #[] 42)).ownsRow (w.heap.size+1) 42 4 (.slice (some ⟨w3.heap.size,0,none⟩) 0 0) 0 []:=⟨rfl,.inr ⟨w3.heap.size,0,#[],rfl,hsz3,Blk.new w3 [] 42,Nat.le_refl _,by unfold maxLen; omega,rfl,rfl⟩⟩
   have hlt0:=fun j hj=>(hown0.lt j hj).1
   have HR1:Hid (∀ j u,(rowOf cvC (L.take k))[j]? = some u→(w3.alloc (.cells #[] 42)).cell? ((⟨b,o,none⟩:Addr).add j)=some u):=LH (fun j u hj=>by
    have h:=rowP_get L (HC.out w3 hQ3) 0 k (by omega) j u (by rw [List.drop_zero]; exact hj)
    rw [Addr.add_lit]
    rw [Nat.zero_mul,Nat.add_zero] at h
    exact qcell ((Below.refl _ w3).alloc (Nat.le_refl _) _) h)
   have HL1:Hid ((rowOf cvC (L.take k)).length=k*4):=LH (by rw [rowOf_len (k:=4) cvC_len,List.length_take]; congr 1; omega)
   have HO1:Hid (∀ u∈rowOf cvC (L.take k),u.oneCell'=true):=LH (rowP_one _ (fun p hp=>HSl.out p (List.mem_of_mem_take hp)))
   have HO2:Hid (∀ u∈rowOf cvC (L.drop k),u.oneCell'=true):=LH (rowP_one _ (fun p hp=>HSl.out p (List.mem_of_mem_drop hp)))
   have HL2:Hid ((rowOf cvC (L.drop k)).length=(L.length - k)*4):=LH (by rw [rowOf_len (k:=4) cvC_len,List.length_drop])
   have hkc:(k:Int)≤cap:=by omega
   have hkl:(k:Int)≤L.length:=by omega
   have hk0:(0:Int)≤k:=by omega
   obtain ⟨ad,had,hadc⟩:∃ ad:Addr,(if cap=k then (some ⟨b,o,none⟩:Option Addr) else some ⟨b,o+k*4,none⟩)=some ad∧∀ W,Q w W→∀ j u,(rowOf cvC (L.drop k))[j]? = some u→W.cell? (ad.add j)=some u:=by
    by_cases hck:cap=k
    ·refine ⟨⟨b,o,none⟩,by rw [if_pos hck],fun W hq j u hj=>?_⟩
     rw [List.drop_eq_nil_of_le (by omega)] at hj
     simp [rowOf] at hj
    ·refine ⟨⟨b,o+k*4,none⟩,by rw [if_neg hck],fun W hq j u hj=>?_⟩
     have h:=rowP_get L (HC.out W hq) k (L.length - k) (by omega) j u (by rw [List.take_of_length_le (by rw [List.length_drop]; omega)]; exact hj)
     rw [Addr.add_lit]
     exact h
   have HAd:=LH hadc
   clear hadc HC HF HX HN HB
   go_wp2_with (at_builtin; refine wpList_append_own_at _ rfl (.tmp 21) (.tmp 24) 22 rfl (w.heap.size+1) 42 c0 _ 4 48 Tryz.underlying22 ci cz0 cz1 cz2 rfl (by decide) _ 0 [] rfl hown0 ⟨b,o,none⟩ k cap (rowOf cvC (L.take k)) rfl HL1.out HR1.out HO1.out (by unfold maxLen; omega) (by omega) (by simp; omega) ?_)
   intro o1 w4 hown1 hgrow1 _ _
   have hq34:Below (w.heap.size+1) w3 w4:=((Below.refl _ _).alloc hsz3 _).grown hgrow1 (by simp; omega) hlt0
   have BX4:=BX3.keep hq34 (Nat.lt_succ_self _)
   have hQ4:Q w w4:=Below.trans hQ3 (hq34.mono (Nat.le_succ _))
   have hsz4:=Nat.le_trans hsz3 hq34.size
   have BX4d:Blk w4.drew w.heap.size [.int .i64 x1,.int .i64 x2,.int .i64 x3,xu] 42:=BX4
   have hsz4d:w.heap.size+1≤w4.drew.heap.size:=hsz4
   have hown1':w4.drew.ownsRow (w.heap.size+1) 42 4 o1 k (rowOf cvC (L.take k)):=hown1
   clear HR1 HL1 HO1 hown0 hlt0 hgrow1 hq34 BX3 hQ3 hsz3 hown1
   go_wp2_with fail
   refine RF.wp_steadily (ρ:=lowR (w.heap.size+1)) 7 rfl (by kernel_rfl) rfl ?_
   refine RF.svq 0 rfl (by intro w' hq; go_simp; try with_reducible rfl) ?_
   refine RF.steadily_value (i:=1) (v:=.agg #[.int .i64 x1,.int .i64 x2,.int .i64 x3,xu]) rfl rfl (by kernel_rfl) (by kernel_rfl) (fun _ _ _ h=>h) (by rfl) (fun w' hq=>?_) ?_
   ·have hB:=BX4d.keep (hq hsz4d) (Nat.lt_succ_self _)
    have t0:=hB.cell 0
    have t1:=hB.cell 1
    have t2:=hB.cell 2
    have t3:=hB.cell 3
    simp only [zs4,zs5] at t0 t1 t2 t3
    go_simp; try with_reducible rfl
   simp only [Act.put,zs1,zs2,zs3]
   refine RF.svq 4 rfl (by intro w' hq; go_simp; try with_reducible rfl) ?_
   refine RF.svq 5 rfl (by intro w' hq; go_simp; try with_reducible rfl) ?_
   refine RF.steadily_value (i:=6) (v:=.slice (some ad) (L.length - k) (cap - k)) rfl rfl (by kernel_rfl) (by kernel_rfl) (fun _ _ _ h=>h) (by rfl) (fun w' hq=>?_) ?_
   ·rw [← had]
    go_simp; try with_reducible rfl
   simp only [Act.put,zs1,zs2,zs3]
   refine RF.steadily_make (i:=2) (fun w'=>.slice (some ⟨w'.heap.size,0,none⟩) 1 1) (.cells #[.int .i64 x1,.int .i64 x2,.int .i64 x3,xu] 42) rfl rfl (by kernel_rfl) (by rfl) (fun w' hq=>?_) (fun w5 hq5=>?_)
   ·go_simp
   simp only [Act.put,zs1,zs2,zs3]
   have B5:=Blk.new w5 [.int .i64 x1,.int .i64 x2,.int .i64 x3,xu] 42
   have hq5a:Q w5 (w5.alloc (.cells [.int .i64 x1,.int .i64 x2,.int .i64 x3,xu].toArray 42)):=(Below.refl _ w5).alloc (Nat.le_refl _) _
   have hq45:Q w4 (w5.alloc (.cells [.int .i64 x1,.int .i64 x2,.int .i64 x3,xu].toArray 42)):=Q.trans (Below.drew (Q.refl w4)) (Q.trans hq5 hq5a)
   have how5:=ownsRow_keep hown1' (Q.trans hq5 hq5a)
   refine RF.steadily_one (i:=3) rfl rfl (by kernel_rfl) (by rfl) (fun w6 hq6 K hK=>?_)
   have B6:=B5.keep hq6 B5.lt
   have how6:=ownsRow_keep how5 hq6
   have hQ6:=Q.trans hQ4 (Q.trans hq45 hq6)
   have hsz6:=Nat.le_trans hsz4 (Q.trans hq45 hq6).size
   refine opwp_append_at w6 (.tmp 26) (.tmp 28) 22 rfl (w.heap.size+1) 42 c0 _ 4 48 Tryz.underlying22 ci cz0 cz1 cz2 rfl (by decide) o1 k (rowOf cvC (L.take k)) rfl how6 ⟨w5.heap.size,0,none⟩ 1 1 [.int .i64 x1,.int .i64 x2,.int .i64 x3,xu] rfl rfl (fun j z hj=>by rw [Addr.add_lit,Nat.zero_add]; exact (B6.cell j).trans hj) (by
    intro z hz
    simp only [List.mem_cons,List.not_mem_nil,or_false] at hz
    rcases hz with rfl | rfl | rfl | rfl
    ·rfl
    ·rfl
    ·rfl
    ·rw [HXu.out]; rfl) (by unfold maxLen; omega) (by omega) hsz6 (fun o2 w7 hown7 hgrow7=>hK _ _ (fun hb=>(Below.refl _ _).grown hgrow7 hb (fun j hj=>(how6.lt j hj).1)) ?_)
   simp only [Act.put,zs1,zs2,zs3]
   have hq67:Below (w.heap.size+1) w6 w7:=(Below.refl _ _).grown hgrow7 hsz6 (fun j hj=>(how6.lt j hj).1)
   refine RF.steadily_done (by kernel_rfl) (fun w8 hq8=>?_)
   have hown8:=ownsRow_keep hown7 hq8
   have hQ8:Q w w8:=Below.trans (Below.trans hQ6 (hq67.mono (Nat.le_succ _))) (hq8.mono (Nat.le_trans hQ6.size hq67.size))
   have hsz8:=Nat.le_trans (Nat.le_trans hsz6 hq67.size) hq8.size
   simp only [List.drop_succ_cons,List.drop_zero]
   clear hq5 hq5a hq45 how5 hown7 hgrow7 hq67 hq8 B5 B6 how6 hQ6 hsz6 BX4 BX4d hsz4d hown1' hQ4 hsz4
   go_wp2_with (at_builtin; refine wpList_append_own_at _ rfl (.tmp 29) (.tmp 32) 22 rfl (w.heap.size+1) 42 c0 _ 4 48 Tryz.underlying22 ci cz0 cz1 cz2 rfl (by decide) _ (k+1) _ rfl hown8 ad (L.length - k) (cap - k) (rowOf cvC (L.drop k)) rfl HL2.out (HAd.out w8 hQ8) HO2.out (by unfold maxLen; omega) (by omega) hsz8 ?_)
   intro o3 w9 hown9 hgrow9 _ _
   have hQ9:Q w w9:=Below.trans hQ8 (((Below.refl _ _).grown hgrow9 hsz8 (fun j hj=>(hown8.lt j hj).1)).mono (Nat.le_succ _))
   have HO9:Hid (w9.ownsRow w.heap.size 42 4 o3 (L.length+1) (rowOf cvC (insP (⟨x1,x2,x3,xm⟩,xu) L))):=LH (by
    have h:=ownsRow_low hown9 (Nat.le_succ _)
    rw [show k+1+(L.length - k)=L.length+1 by omega] at h
    rw [HIns.out]
    have e:rowOf cvC (L.take k++((⟨x1,x2,x3,xm⟩:Ct),xu)::L.drop k)=rowOf cvC (L.take k)++.int .i64 x1::.int .i64 x2::.int .i64 x3::xu::rowOf cvC (L.drop k):=by
     unfold rowOf; rw [List.flatMap_append,List.flatMap_cons]; rfl
    rw [e]; exact h)
   clear hown9 hgrow9 hown8 HIns HAd HO2 HL2 hQ8
   go_wp2
   go_ret
   exact ⟨_,rfl,HO9.out,hQ9⟩
theorem rowSome {w:World} {B n:Nat} {v:Value} {L:List CV} (h:w.ownsRow B 42 4 v n (rowOf cvC L)) (hn:v≠.slice none 0 0):∃ b cap,v=.slice (some ⟨b,0,none⟩) n cap∧n≤cap∧cap≤maxLen:=by
 rcases h.2 with ⟨h0,-⟩ | ⟨g,cap,cur,hv,hg,hc,h1,h2,-⟩
 ·exact absurd h0 hn
 ·exact ⟨g,cap,hv,h1,h2⟩
set_option maxRecDepth 100000 in
theorem ref_Split (l:List Ct) (hg:Good l) (hm:∀ x∈l,x.ms.length≤512) (v:Value) (w:World) (hv:CtSl w v l) :
  Calls Tryz.prog 22 #[v] w fun e w'=>∃ v' S,e=.returned (.tuple #[v',.int .i64 0])∧Q w w'∧SplOk l S∧CtSl w' v' S:=by
 have hC:=ref_Check l (by have:=hg.len; omega) (fun x hx=>by have:=hm x hx; omega) v w hv
 rw [(good_iff l).2 hg] at hC
 have HC:=LH hC
 have HV:Hid (∀ W,Q w W→CtSl W v l):=LH (fun W hq=>hv.keep hq)
 have HM:Hid (∀ k,k<l.length→(ctAt l k).ms.length≤512):=LH (fun k hk=>hm _ (by rw [ctAt_get hk]; exact List.getElem_mem hk))
 have HT:Hid (∀ k,k<l.length→splF (l.take (k+1))=splF (l.take k)++spl (ctAt l k)):=LH (fun k hk=>splF_take hk)
 have HB:Hid (∀ k,(splF (l.take k)).length≤262144):=LH (fun k=>by
  have h:=splF_bound (l.take k) (fun x hx=>hm x (List.mem_of_mem_take hx))
  have h2:=hg.len
  rw [List.length_take] at h
  omega)
 have HL:=LH (List.take_length (l:=l))
 have hln:(l.length:Int)≤512:=by have:=hg.len; omega
 clear hC hg hm
 obtain ⟨a,cap,rfl,-⟩:=hv
 go_enter Tryz.func22,Tryz.ntmps22
 go_wp2_with fail
 refine HC.out.mono ?_
 rintro e w1 ⟨rfl,hq1⟩
 clear HC
 go_wp2
 go_loopw [5,4] (fun i o wr=>∃ (k:Nat) (L:List CV),k≤l.length∧i=.int .i64 k∧Hid ((L.map (·.1)).Perm (splF (l.take k)))∧Hid (srtP L)∧Hid (∀ p∈L,Mine wr p)∧wr.ownsRow w.heap.size 42 4 o L.length (rowOf cvC L)∧o≠.slice none 0 0∧Q w wr) (fun i _ _=>l.length - (intOf i).toNat)
 case atStart=>exact ⟨0,[],by omega,rfl,LH (List.Perm.refl _),LH List.Pairwise.nil,LH (fun p hp=>by cases hp),⟨rfl,.inr ⟨w1.heap.size,0,#[],rfl,hq1.size,Blk.new w1 [] 42,Nat.le_refl _,by unfold maxLen; omega,rfl,rfl⟩⟩,by simp,bt⟩
 case round =>
  clear hq1
  obtain ⟨k,L,hk,rfl,HS,HP,HMi,hown,hnn,hQ⟩:=hrel
  by_cases hlt:k<l.length
  ·obtain ⟨b,o,a2,c2,rfl,hb,hn,e0,e1,e2,e3⟩:=(HV.out _ (Q.refl w)).cellsAt hlt
   have HN:Hid (∀ W,Q w W→NumSl W (.slice a2 (ctAt l k).ms.length c2) (ctAt l k).ms):=LH (fun W hq=>hn.keep hq)
   have HTk:=LH (HT.out k hlt)
   have hM:=HM.out k hlt
   have hkz:(k:Int)<l.length:=by omega
   have hk0:(0:Int)≤k:=by omega
   have HBk:=LH (HB.out (k+1))
   clear hn HM HT HB
   generalize hx:ctAt l k=x at *
   obtain ⟨x1,x2,x3,xm⟩:=x
   simp only at e0 e1 e2 e3 hM HN
   clear hx
   have hxm:(xm.length:Int)≤512:=by omega
   go_wp2_with fail
   go_loopw [6,4] (fun i o wl=>∃ (m:Nat) (Lm:List CV),m≤xm.length∧i=.int .i64 m∧Hid ((Lm.map (·.1)).Perm (splF (l.take k)++(xm.take m).map (fun y=>⟨x1,x2,x3,[y]⟩)))∧Hid (srtP Lm)∧Hid (∀ p∈Lm,Mine wl p)∧wl.ownsRow w.heap.size 42 4 o Lm.length (rowOf cvC Lm)∧o≠.slice none 0 0∧Q w wl) (fun i _ _=>xm.length - (intOf i).toNat)
   case atStart=>exact ⟨0,L,by omega,rfl,LH (by simpa using HS.out),HP,HMi,hown,hnn,hQ⟩
   case round =>
    clear HS HP HMi hown hnn hQ
    obtain ⟨m,Lm,hm,rfl,HS,HP,HMi,hown,hnn,hQ⟩:=hrel
    replace e0:=qcell hQ e0
    replace e1:=qcell hQ e1
    replace e2:=qcell hQ e2
    replace e3:=qcell hQ e3
    have hbw:b<wr.heap.size:=Nat.lt_of_lt_of_le hb hQ.size
    by_cases hlm:m<xm.length
    ·obtain ⟨b',o'',he,hb',d0⟩:=(HN.out _ hQ).cell.2 m hlm
     subst he
     have HT2:Hid ((xm.take (m+1)).map (fun y=>(⟨x1,x2,x3,[y]⟩:Ct))=(xm.take m).map (fun y=>⟨x1,x2,x3,[y]⟩)++[⟨x1,x2,x3,[atI xm m]⟩]):=LH (by rw [take_at hlm,List.map_append]; rfl)
     have hLl:Lm.length≤1000000:=by
      have h:=HS.out.length_eq
      have h2:=HBk.out
      rw [HTk.out] at h2
      simp only [List.length_append,List.length_map,List.length_take,spl] at h h2
      omega
     generalize atI xm m=y at *
     have hmz:(m:Int)<xm.length:=by omega
     have hm0:(0:Int)≤m:=by omega
     obtain ⟨g,gc,rfl,hg1,hg2⟩:=rowSome hown hnn
     clear HTk HV HL HN
     have hqn:Q wr ((wr.alloc (.cells #[.int .i64 x1,.int .i64 x2,.int .i64 x3,.slice (some ⟨wr.heap.size+1,0,none⟩) 1 1] 42)).alloc (.cells #[.int .i64 y] 3)):=bt
     have B2:=Blk.new1 wr (.cells #[.int .i64 x1,.int .i64 x2,.int .i64 x3,.slice (some ⟨wr.heap.size+1,0,none⟩) 1 1] 42) [.int .i64 y] 3
     have HPut:=LH (ref_put Lm hLl (⟨x1,x2,x3,[y]⟩,.slice (some ⟨wr.heap.size+1,0,none⟩) 1 1) g 0 gc hg1 ((wr.alloc (.cells #[.int .i64 x1,.int .i64 x2,.int .i64 x3,.slice (some ⟨wr.heap.size+1,0,none⟩) 1 1] 42)).alloc (.cells #[.int .i64 y] 3))
      (RowSl.of_row cvC_len (ownsRow_keep hown hqn)) (fun p hp=>((HMi.out p hp).q hqn).fst) (mine_one x1 x2 x3 B2).fst)
     simp only [cvC,ctC] at HPut
     go_wp2_with fail
     refine HPut.out.mono ?_
     rintro e w6 ⟨v6,rfl,hown6,hq6⟩
     have hq16:Q wr w6:=Q.trans hqn hq6
     have hQ6:=Q.trans hQ hq16
     have HLn:Hid ((insP ((⟨x1,x2,x3,[y]⟩:Ct),Value.slice (some ⟨wr.heap.size+1,0,none⟩) 1 1) Lm).length=Lm.length+1):=LH (insP_perm ((⟨x1,x2,x3,[y]⟩:Ct),Value.slice (some ⟨wr.heap.size+1,0,none⟩) 1 1) Lm).length_eq
     have HO6:Hid (w6.ownsRow w.heap.size 42 4 v6 (insP ((⟨x1,x2,x3,[y]⟩:Ct),Value.slice (some ⟨wr.heap.size+1,0,none⟩) 1 1) Lm).length (rowOf cvC (insP ((⟨x1,x2,x3,[y]⟩:Ct),Value.slice (some ⟨wr.heap.size+1,0,none⟩) 1 1) Lm))):=LH (by
      rw [HLn.out]
      exact ownsRow_low hown6 (Nat.le_trans hQ.size hqn.size))
     have hn6:v6≠.slice none 0 0:=by
      rcases hown6.2 with ⟨-,h0⟩ | ⟨g',c',cur,rfl,_⟩
      ·cases h0
      ·simp
     have HM6:Hid (∀ p∈insP ((⟨x1,x2,x3,[y]⟩:Ct),Value.slice (some ⟨wr.heap.size+1,0,none⟩) 1 1) Lm,Mine w6 p):=LH (fun p hp=>by
      rcases List.mem_cons.1 ((insP_perm ((⟨x1,x2,x3,[y]⟩:Ct),Value.slice (some ⟨wr.heap.size+1,0,none⟩) 1 1) Lm).mem_iff.1 hp) with rfl | h
      ·exact (mine_one x1 x2 x3 B2).q hq6
      ·exact (HMi.out p h).q hq16)
     have HP6:=LH (insP_srt (x:=((⟨x1,x2,x3,[y]⟩:Ct),Value.slice (some ⟨wr.heap.size+1,0,none⟩) 1 1)) HP.out)
     have HS6:Hid (((insP ((⟨x1,x2,x3,[y]⟩:Ct),Value.slice (some ⟨wr.heap.size+1,0,none⟩) 1 1) Lm).map (·.1)).Perm (splF (l.take k)++(xm.take (m+1)).map (fun y=>⟨x1,x2,x3,[y]⟩))):=LH (by
      refine ((insP_perm ((⟨x1,x2,x3,[y]⟩:Ct),Value.slice (some ⟨wr.heap.size+1,0,none⟩) 1 1) Lm).map (·.1)).trans ?_
      rw [HT2.out,← List.append_assoc,List.map_cons]
      exact (List.Perm.cons _ HS.out).trans (List.perm_append_singleton _ _).symm)
     clear HPut hown6 hq6 hq16 hqn B2 HLn HMi HP HS HT2 hown hnn e0 e1 e2 e3 d0 hQ
     generalize insP ((⟨x1,x2,x3,[y]⟩:Ct),Value.slice (some ⟨wr.heap.size+1,0,none⟩) 1 1) Lm=L6 at *
     go_wp2
     go_roundw
     case rel=>exact ⟨m+1,L6,by omega,by go_num,HS6,HP6,HM6,HO6.out,hn6,hQ6⟩
     case measure=>simp [intOf]; omega
    ·obtain rfl:m=xm.length:=by omega
     have HS2:Hid ((Lm.map (·.1)).Perm (splF (l.take (k+1)))):=LH (by
      have h:=HS.out
      rw [List.take_length] at h
      rw [HTk.out]; exact h)
     clear HS HN HTk HBk
     go_wp2
     go_roundw
     case rel=>exact ⟨k+1,Lm,by omega,by go_num,HS2,HP,HMi,hown,hnn,hQ⟩
     case measure=>simp [intOf]; omega
  ·obtain rfl:k=l.length:=by omega
   rw [HL.out] at HS
   obtain ⟨g,gc,rfl,-,-⟩:=rowSome hown hnn
   have HOk:Hid (SplOk l (L.map (·.1))):=LH ⟨HS.out,List.pairwise_map.2 HP.out⟩
   have HCt:Hid (CtSl wr (.slice (some ⟨g,0,none⟩) L.length gc) (L.map (·.1))):=LH (CtSl.of (RowSl.of_row cvC_len hown) (fun p hp=>(HMi.out p hp).num))
   clear HV HT HB HM HL hown HMi HS HP
   go_wp2
   go_ret2
   exact ⟨_,_,rfl,hQ,HOk.out,HCt.out⟩
theorem secF_mem:∀ (l:List Ct) (out:List (Int × Int)) (q:Int × Int),q∈secF out l ↔ q∈out∨∃ x∈l,(x.w,x.d)=q
 | [],out,q=>by simp [secF]
 | x::l,out,q=>by
  rw [secF,secF_mem l]
  split
  ·rename_i h
   constructor
   ·rintro (h1 | ⟨y,hy,e⟩)
    ·exact .inl h1
    ·exact .inr ⟨y,by simp [hy],e⟩
   ·rintro (h1 | ⟨y,hy,e⟩)
    ·exact .inl h1
    ·rcases List.mem_cons.1 hy with rfl | hy
     ·exact .inl (by rw [← e]; exact h)
     ·exact .inr ⟨y,hy,e⟩
  ·simp only [List.mem_append,List.mem_singleton]
   constructor
   ·rintro ((h1 | h1) | ⟨y,hy,e⟩)
    ·exact .inl h1
    ·exact .inr ⟨x,by simp,h1.symm⟩
    ·exact .inr ⟨y,by simp [hy],e⟩
   ·rintro (h1 | ⟨y,hy,e⟩)
    ·exact .inl (.inl h1)
    ·rcases List.mem_cons.1 hy with rfl | hy
     ·exact .inl (.inr e.symm)
     ·exact .inr ⟨y,hy,e⟩
theorem sec_prev {l:List Ct} (hg:Good l) {k:Nat} (h0:0<k) (hk:k<l.length):((ctAt l k).w,(ctAt l k).d)∈secF [] (l.take k) ↔ (ctAt l (k - 1)).w=(ctAt l k).w∧(ctAt l (k - 1)).d=(ctAt l k).d:=by
 rw [secF_mem]
 constructor
 ·rintro (h | ⟨x,hx,e⟩)
  ·cases h
  ·obtain ⟨j,hj,rfl⟩:=List.mem_iff_getElem.1 hx
   rw [List.length_take] at hj
   rw [List.getElem_take,← ctAt_get (by omega)] at e
   injection e with e1 e2
   by_cases hjk:j=k - 1
   ·subst hjk; exact ⟨e1,e2⟩
   ·have a1:=(beh_iff _ _).1 (hg.lt (show j<k - 1 by omega) (by omega))
    have a2:=(beh_iff _ _).1 (hg.lt (show k - 1<k by omega) hk)
    omega
 ·rintro ⟨e1,e2⟩
  refine .inr ⟨ctAt l (k - 1),?_,by rw [e1,e2]⟩
  rw [ctAt_get (by omega)]
  exact List.mem_iff_getElem.2 ⟨k - 1,by rw [List.length_take]; omega,List.getElem_take⟩
set_option maxRecDepth 100000 in
theorem ref_Sections (l:List Ct) (hg:Good l) (hm:∀ x∈l,x.ms.length≤512) (v:Value) (w:World) (hv:CtSl w v l) :
  Calls Tryz.prog 21 #[v] w fun e w'=>∃ v',e=.returned (.tuple #[v',.int .i64 0])∧Q w w'∧RowSl 3 sqC w' v' (secF [] l):=by
 have hC:=ref_Check l (by have:=hg.len; omega) (fun x hx=>by have:=hm x hx; omega) v w hv
 rw [(good_iff l).2 hg] at hC
 have HC:=LH hC
 have HV:Hid (∀ W,Q w W→CtSl W v l):=LH (fun W hq=>hv.keep hq)
 have HT:Hid (∀ k,k<l.length→secF [] (l.take (k+1))=if ((ctAt l k).w,(ctAt l k).d)∈secF [] (l.take k) then secF [] (l.take k) else secF [] (l.take k)++[((ctAt l k).w,(ctAt l k).d)]):=LH (fun k hk=>by rw [List.take_succ_eq_append_getElem hk,secF_snoc,ctAt_get hk])
 have HB:Hid (∀ k,(secF [] (l.take k)).length≤512):=LH (fun k=>by
  have h:=secF_len (l.take k) []
  have h2:=hg.len
  rw [List.length_take,List.length_nil] at h
  omega)
 have HL:=LH (List.take_length (l:=l))
 have hln:(l.length:Int)≤512:=by have:=hg.len; omega
 obtain ⟨c0,ci,cz0,cz1,cz2⟩:=info_parts infoSq
 have HG:=LH hg
 clear hC hg hm
 obtain ⟨a,cap,rfl,-⟩:=hv
 go_enter Tryz.func21,Tryz.ntmps21
 go_wp2_with fail
 refine HC.out.mono ?_
 rintro e w1 ⟨rfl,hq1⟩
 clear HC
 go_wp2
 go_loopw [5,4] (fun i o wr=>∃ (k:Nat) (L:List (Int × Int)),k≤l.length∧i=.int .i64 k∧Hid (L=secF [] (l.take k))∧wr.ownsRow w.heap.size 39 3 o L.length (rowOf sqC L)∧Q w wr) (fun i _ _=>l.length - (intOf i).toNat)
 case atStart=>exact ⟨0,[],by omega,rfl,LH rfl,⟨rfl,.inr ⟨w1.heap.size,0,#[],rfl,hq1.size,Blk.new w1 [] 39,Nat.le_refl _,by unfold maxLen; omega,rfl,rfl⟩⟩,bt⟩
 case round =>
  clear hq1
  obtain ⟨k,L,hk,rfl,HS,hown,hQ⟩:=hrel
  by_cases hlt:k<l.length
  ·obtain ⟨b,o,a2,c2,rfl,hb,hn,e0,e1,e2,e3⟩:=(HV.out _ hQ).at hlt
   have HTk:=LH (HT.out k hlt)
   have hB:=HB.out k
   rw [← HS.out] at HTk hB
   have hkz:(k:Int)<l.length:=by omega
   have hk0:(0:Int)≤k:=by omega
   have HL0:Hid (k=0→L=[]):=LH (fun h=>by rw [HS.out,h]; rfl)
   have HP:Hid (0<k→∃ p1 p2,wr.cell? ⟨b,o+(k - 1)*4,none⟩=some (.int .i64 p1)∧wr.cell? ⟨b,o+(k - 1)*4+1,none⟩=some (.int .i64 p2)∧(((ctAt l k).w,(ctAt l k).d)∈secF [] (l.take k) ↔ p1=(ctAt l k).w∧p2=(ctAt l k).d)):=LH (fun h0=>by
    obtain ⟨b',o',a2',c2',he,-,-,p0,p1,-,-⟩:=(HV.out _ hQ).at (show k - 1<l.length by omega)
    injection he with he
    injection he with q1 q2
    subst q1 q2
    exact ⟨_,_,p0,p1,sec_prev HG.out h0 hlt⟩)
   have hSL:=HS.out
   rw [← hSL] at HP
   clear hn HB HV HT HL HS HG hSL
   generalize (ctAt l k).ms.length=n at *
   generalize (ctAt l k).w=x1 at *
   generalize (ctAt l k).d=x2 at *
   generalize (ctAt l k).n=x3 at *
   rcases Nat.eq_zero_or_pos k with h0 | h0
   ·have HNo:Hid (¬ (x1,x2)∈L):=LH (by
     have:=HL0.out h0
     rw [this]; simp)
    have hkq:((k:Int) == 0)=true:=by rw [h0]; rfl
    have hkq2:(k == 0)=true:=by rw [h0]; rfl
    clear HP HL0 h0
    go_wp2_with fail
    refine wp_steadily 30 rfl (by kernel_rfl) rfl ?_
    refine svp 0 ?_
    refine svp 1 ?_
    refine svp 2 ?_
    refine sid 3 ?_
    refine sid 4 ?_
    refine sid 5 ?_
    refine sid 6 ?_
    refine sid 7 ?_
    refine sid 8 ?_
    refine sid 9 ?_
    refine sid 10 ?_
    refine sid 11 ?_
    refine sid 12 ?_
    refine sid 13 ?_
    refine sid 14 ?_
    refine svp 15 ?_
    refine svp 16 ?_
    refine sid 17 ?_
    refine sid 18 ?_
    refine sid 19 ?_
    refine sid 20 ?_
    refine sid 21 ?_
    refine sid 22 ?_
    refine sid 23 ?_
    refine sid 24 ?_
    refine sid 25 ?_
    refine sid 26 ?_
    refine sid 27 ?_
    refine sid 28 ?_
    refine svp 29 ?_
    refine steadily_done (by kernel_rfl) (fun w3 hq3=>?_)
    clear hkq hkq2
    have HRw:Hid (rowOf sqC (L++[(x1,x2)])=rowOf sqC L++[.int .i64 0,.int .i64 x1,.int .i64 x2]):=LH (rowOf_snoc _ _)
    have HS2:Hid (L++[(x1,x2)]=secF [] (l.take (k+1))):=LH (by rw [HTk.out,if_neg HNo.out])
    have hqq:Q wr w3:=Q.trans (Below.drew (Q.refl _)) hq3
    have hQ3:=Q.trans hQ hqq
    have how3:=ownsRow_keep hown hqq
    replace e0:=qcell hqq e0
    replace e1:=qcell hqq e1
    clear HTk HNo hq3 hqq hown hQ
    simp only [List.drop_succ_cons,List.drop_nil]
    go_wp2_with fail
    refine wp_steadily 13 rfl (by kernel_rfl) rfl ?_
    refine svp 0 ?_
    refine svp 1 ?_
    refine svp 2 ?_
    refine svp 3 ?_
    refine svp 4 ?_
    refine svr 5 e0 ?_
    refine svp 6 ?_
    refine svp 7 ?_
    refine svp 8 ?_
    refine svp 9 ?_
    refine svr 10 e1 ?_
    refine svp 11 ?_
    refine steadily_make (i:=12) (fun w'=>.slice (some ⟨w'.heap.size,0,none⟩) 1 1) (.cells #[.int .i64 0,.int .i64 x1,.int .i64 x2] 39) rfl rfl (by kernel_rfl) (by rfl) (fun w' hq=>?_) (fun w5 hq5=>?_)
    ·go_simp
    simp only [Act.put,zs1,zs2,zs3]
    have B5:=Blk.new w5 [.int .i64 0,.int .i64 x1,.int .i64 x2] 39
    refine steadily_done (by kernel_rfl) (fun w6 hq6=>?_)
    have B6:=B5.keep hq6 B5.lt
    have hq36:Q w3 w6:=Q.trans (Below.drew (Q.refl _)) (Q.trans hq5 (Q.trans ((Below.refl _ w5).alloc (Nat.le_refl _) _) hq6))
    generalize w5.heap.size=g5 at *
    have how6:=ownsRow_keep how3 hq36
    have hQ6:=Q.trans hQ3 hq36
    have hw6:=hQ6.size
    clear e0 e1 B5 hq5 hq6 hq36 how3 hQ3
    simp only [List.drop_succ_cons,List.drop_zero]
    go_wp2_with (at_builtin; refine wpList_append_own _ rfl (.tmp 47) (.tmp 59) 31 rfl w.heap.size 39 c0 _ 3 24 Tryz.underlying31 ci cz0 cz1 cz2 rfl (by decide) _ L.length (rowOf sqC L) rfl how6 ⟨g5,0,none⟩ 1 1 [.int .i64 0,.int .i64 x1,.int .i64 x2] rfl rfl (fun j z hj=>by rw [Addr.add_lit,Nat.zero_add]; exact (B6.cell j).trans hj) (by intro z hz; simp only [List.mem_cons,List.not_mem_nil,or_false] at hz; rcases hz with rfl | rfl | rfl <;> rfl) (by unfold maxLen; omega) (by omega) hw6 ?_)
    intro v' w7 hown7 hgrow7 _
    have hQ7:Q w w7:=Below.trans hQ6 ((Below.refl _ _).grown hgrow7 hw6 (fun k hk=>(how6.lt k hk).1))
    have HO:Hid (w7.ownsRow w.heap.size 39 3 v' (L++[(x1,x2)]).length (rowOf sqC (L++[(x1,x2)]))):=LH (by rw [HRw.out,List.length_append]; exact hown7)
    clear hown7 hgrow7 how6 hQ6 HRw B6
    go_wp2
    go_roundw
    case rel=>exact ⟨k+1,_,by omega,by go_num,HS2,HO.out,hQ7⟩
    case measure=>simp [intOf]; omega
   ·obtain ⟨p1,p2,c0',c1',hiff⟩:=HP.out h0
    obtain ⟨m,rfl⟩:∃ m,k=m+1:=⟨k - 1,by omega⟩
    rw [Nat.add_sub_cancel] at c0' c1'
    have hm0:(0:Int)≤m:=by omega
    have hmw:IntKind.i64.wrap (m:Int)=m:=Go.IntWalk.i64_in _ (by omega)
    have hml:(m:Int)<l.length:=by omega
    have hmn:m<l.length:=by omega
    have hm1:(0:Int)≤(m:Int)+1:=by omega
    have hml1:(m:Int)+1<l.length:=by omega
    have hne0:((m:Int)+1 == 0)=false:=by rw [beq_eq_false_iff_ne]; omega
    clear HP HL0 h0 hkz hk0
    by_cases hw:x1=p1
    ·by_cases hd:x2=p2
     ·have HS2:Hid (L=secF [] (l.take (m+1+1))):=LH (by rw [HTk.out,if_pos (hiff.2 ⟨hw.symm,hd.symm⟩)])
      subst hw hd
      clear hiff HTk
      go_wp2_with fail
      refine wp_steadily 30 rfl (by kernel_rfl) rfl ?_
      refine svp 0 ?_
      refine svp 1 ?_
      refine svp 2 ?_
      refine svp 3 ?_
      refine svp 4 ?_
      refine svp 5 ?_
      refine svp 6 ?_
      refine svr 7 e0 ?_
      refine svp 8 ?_
      refine svp 9 ?_
      refine svp 10 ?_
      refine svp 11 ?_
      refine svp 12 ?_
      refine svr 13 c0' ?_
      refine svp 14 ?_
      refine svp 15 ?_
      refine svp 16 ?_
      refine svp 17 ?_
      refine svp 18 ?_
      refine svp 19 ?_
      refine svp 20 ?_
      refine svr 21 e1 ?_
      refine svp 22 ?_
      refine svp 23 ?_
      refine svp 24 ?_
      refine svp 25 ?_
      refine svp 26 ?_
      refine svr 27 c1' ?_
      refine svp 28 ?_
      refine svp 29 ?_
      refine steadily_done (by kernel_rfl) (fun w3 hq3=>?_)
      have hqq:Q wr w3:=Q.trans (Below.drew (Q.refl _)) hq3
      have hQ3:=Q.trans hQ hqq
      have how3:=ownsRow_keep hown hqq
      clear e0 e1 e2 e3 c0' c1' hq3 hqq hown hQ
      simp only [List.drop_succ_cons,List.drop_nil]
      go_wp2
      all_goals
       go_roundw
       case rel=>exact ⟨m+1+1,L,by omega,by go_num,HS2,how3,hQ3⟩
       case measure=>simp [intOf]; omega
     ·have HNo:Hid (¬ (x1,x2)∈L):=LH (fun h=>hd (hiff.1 h).2.symm)
      subst hw
      have hdn:(x2 != p2)=true:=by rw [bne_iff_ne]; exact hd
      clear hiff
      go_wp2_with fail
      refine wp_steadily 30 rfl (by kernel_rfl) rfl ?_
      refine svp 0 ?_
      refine svp 1 ?_
      refine svp 2 ?_
      refine svp 3 ?_
      refine svp 4 ?_
      refine svp 5 ?_
      refine svp 6 ?_
      refine svr 7 e0 ?_
      refine svp 8 ?_
      refine svp 9 ?_
      refine svp 10 ?_
      refine svp 11 ?_
      refine svp 12 ?_
      refine svr 13 c0' ?_
      refine svp 14 ?_
      refine svp 15 ?_
      refine svp 16 ?_
      refine svp 17 ?_
      refine svp 18 ?_
      refine svp 19 ?_
      refine svp 20 ?_
      refine svr 21 e1 ?_
      refine svp 22 ?_
      refine svp 23 ?_
      refine svp 24 ?_
      refine svp 25 ?_
      refine svp 26 ?_
      refine svr 27 c1' ?_
      refine svp 28 ?_
      refine svp 29 ?_
      refine steadily_done (by kernel_rfl) (fun w3 hq3=>?_)
      clear c0' c1' hd hdn
      have HRw:Hid (rowOf sqC (L++[(x1,x2)])=rowOf sqC L++[.int .i64 0,.int .i64 x1,.int .i64 x2]):=LH (rowOf_snoc _ _)
      have HS2:Hid (L++[(x1,x2)]=secF [] (l.take (m+1+1))):=LH (by rw [HTk.out,if_neg HNo.out])
      have hqq:Q wr w3:=Q.trans (Below.drew (Q.refl _)) hq3
      have hQ3:=Q.trans hQ hqq
      have how3:=ownsRow_keep hown hqq
      replace e0:=qcell hqq e0
      replace e1:=qcell hqq e1
      clear HTk HNo hq3 hqq hown hQ
      simp only [List.drop_succ_cons,List.drop_nil]
      go_wp2_with fail
      refine wp_steadily 13 rfl (by kernel_rfl) rfl ?_
      refine svp 0 ?_
      refine svp 1 ?_
      refine svp 2 ?_
      refine svp 3 ?_
      refine svp 4 ?_
      refine svr 5 e0 ?_
      refine svp 6 ?_
      refine svp 7 ?_
      refine svp 8 ?_
      refine svp 9 ?_
      refine svr 10 e1 ?_
      refine svp 11 ?_
      refine steadily_make (i:=12) (fun w'=>.slice (some ⟨w'.heap.size,0,none⟩) 1 1) (.cells #[.int .i64 0,.int .i64 x1,.int .i64 x2] 39) rfl rfl (by kernel_rfl) (by rfl) (fun w' hq=>?_) (fun w5 hq5=>?_)
      ·go_simp
      simp only [Act.put,zs1,zs2,zs3]
      have B5:=Blk.new w5 [.int .i64 0,.int .i64 x1,.int .i64 x2] 39
      refine steadily_done (by kernel_rfl) (fun w6 hq6=>?_)
      have B6:=B5.keep hq6 B5.lt
      have hq36:Q w3 w6:=Q.trans (Below.drew (Q.refl _)) (Q.trans hq5 (Q.trans ((Below.refl _ w5).alloc (Nat.le_refl _) _) hq6))
      generalize w5.heap.size=g5 at *
      have how6:=ownsRow_keep how3 hq36
      have hQ6:=Q.trans hQ3 hq36
      have hw6:=hQ6.size
      clear e0 e1 B5 hq5 hq6 hq36 how3 hQ3
      simp only [List.drop_succ_cons,List.drop_zero]
      go_wp2_with (at_builtin; refine wpList_append_own _ rfl (.tmp 47) (.tmp 59) 31 rfl w.heap.size 39 c0 _ 3 24 Tryz.underlying31 ci cz0 cz1 cz2 rfl (by decide) _ L.length (rowOf sqC L) rfl how6 ⟨g5,0,none⟩ 1 1 [.int .i64 0,.int .i64 x1,.int .i64 x2] rfl rfl (fun j z hj=>by rw [Addr.add_lit,Nat.zero_add]; exact (B6.cell j).trans hj) (by intro z hz; simp only [List.mem_cons,List.not_mem_nil,or_false] at hz; rcases hz with rfl | rfl | rfl <;> rfl) (by unfold maxLen; omega) (by omega) hw6 ?_)
      intro v' w7 hown7 hgrow7 _
      have hQ7:Q w w7:=Below.trans hQ6 ((Below.refl _ _).grown hgrow7 hw6 (fun j hk=>(how6.lt j hk).1))
      have HO:Hid (w7.ownsRow w.heap.size 39 3 v' (L++[(x1,x2)]).length (rowOf sqC (L++[(x1,x2)]))):=LH (by rw [HRw.out,List.length_append]; exact hown7)
      clear hown7 hgrow7 how6 hQ6 HRw B6
      go_wp2
      go_roundw
      case rel=>exact ⟨m+1+1,_,by omega,by go_num,HS2,HO.out,hQ7⟩
      case measure=>simp [intOf]; omega
    ·have HNo:Hid (¬ (x1,x2)∈L):=LH (fun h=>hw (hiff.1 h).1.symm)
     have hwn:(x1 != p1)=true:=by rw [bne_iff_ne]; exact hw
     clear hiff
     go_wp2_with fail
     refine wp_steadily 30 rfl (by kernel_rfl) rfl ?_
     refine svp 0 ?_
     refine svp 1 ?_
     refine svp 2 ?_
     refine svp 3 ?_
     refine svp 4 ?_
     refine svp 5 ?_
     refine svp 6 ?_
     refine svr 7 e0 ?_
     refine svp 8 ?_
     refine svp 9 ?_
     refine svp 10 ?_
     refine svp 11 ?_
     refine svp 12 ?_
     refine svr 13 c0' ?_
     refine svp 14 ?_
     refine svp 15 ?_
     refine svp 16 ?_
     refine sid 17 ?_
     refine sid 18 ?_
     refine sid 19 ?_
     refine sid 20 ?_
     refine sid 21 ?_
     refine sid 22 ?_
     refine sid 23 ?_
     refine sid 24 ?_
     refine sid 25 ?_
     refine sid 26 ?_
     refine sid 27 ?_
     refine sid 28 ?_
     refine svp 29 ?_
     refine steadily_done (by kernel_rfl) (fun w3 hq3=>?_)
     clear c0' c1' hw hwn
     have HRw:Hid (rowOf sqC (L++[(x1,x2)])=rowOf sqC L++[.int .i64 0,.int .i64 x1,.int .i64 x2]):=LH (rowOf_snoc _ _)
     have HS2:Hid (L++[(x1,x2)]=secF [] (l.take (m+1+1))):=LH (by rw [HTk.out,if_neg HNo.out])
     have hqq:Q wr w3:=Q.trans (Below.drew (Q.refl _)) hq3
     have hQ3:=Q.trans hQ hqq
     have how3:=ownsRow_keep hown hqq
     replace e0:=qcell hqq e0
     replace e1:=qcell hqq e1
     clear HTk HNo hq3 hqq hown hQ
     simp only [List.drop_succ_cons,List.drop_nil]
     go_wp2_with fail
     refine wp_steadily 13 rfl (by kernel_rfl) rfl ?_
     refine svp 0 ?_
     refine svp 1 ?_
     refine svp 2 ?_
     refine svp 3 ?_
     refine svp 4 ?_
     refine svr 5 e0 ?_
     refine svp 6 ?_
     refine svp 7 ?_
     refine svp 8 ?_
     refine svp 9 ?_
     refine svr 10 e1 ?_
     refine svp 11 ?_
     refine steadily_make (i:=12) (fun w'=>.slice (some ⟨w'.heap.size,0,none⟩) 1 1) (.cells #[.int .i64 0,.int .i64 x1,.int .i64 x2] 39) rfl rfl (by kernel_rfl) (by rfl) (fun w' hq=>?_) (fun w5 hq5=>?_)
     ·go_simp
     simp only [Act.put,zs1,zs2,zs3]
     have B5:=Blk.new w5 [.int .i64 0,.int .i64 x1,.int .i64 x2] 39
     refine steadily_done (by kernel_rfl) (fun w6 hq6=>?_)
     have B6:=B5.keep hq6 B5.lt
     have hq36:Q w3 w6:=Q.trans (Below.drew (Q.refl _)) (Q.trans hq5 (Q.trans ((Below.refl _ w5).alloc (Nat.le_refl _) _) hq6))
     generalize w5.heap.size=g5 at *
     have how6:=ownsRow_keep how3 hq36
     have hQ6:=Q.trans hQ3 hq36
     have hw6:=hQ6.size
     clear e0 e1 B5 hq5 hq6 hq36 how3 hQ3
     simp only [List.drop_succ_cons,List.drop_zero]
     go_wp2_with (at_builtin; refine wpList_append_own _ rfl (.tmp 47) (.tmp 59) 31 rfl w.heap.size 39 c0 _ 3 24 Tryz.underlying31 ci cz0 cz1 cz2 rfl (by decide) _ L.length (rowOf sqC L) rfl how6 ⟨g5,0,none⟩ 1 1 [.int .i64 0,.int .i64 x1,.int .i64 x2] rfl rfl (fun j z hj=>by rw [Addr.add_lit,Nat.zero_add]; exact (B6.cell j).trans hj) (by intro z hz; simp only [List.mem_cons,List.not_mem_nil,or_false] at hz; rcases hz with rfl | rfl | rfl <;> rfl) (by unfold maxLen; omega) (by omega) hw6 ?_)
     intro v' w7 hown7 hgrow7 _
     have hQ7:Q w w7:=Below.trans hQ6 ((Below.refl _ _).grown hgrow7 hw6 (fun j hk=>(how6.lt j hk).1))
     have HO:Hid (w7.ownsRow w.heap.size 39 3 v' (L++[(x1,x2)]).length (rowOf sqC (L++[(x1,x2)]))):=LH (by rw [HRw.out,List.length_append]; exact hown7)
     clear hown7 hgrow7 how6 hQ6 HRw B6
     go_wp2
     go_roundw
     case rel=>exact ⟨m+1+1,_,by omega,by go_num,HS2,HO.out,hQ7⟩
     case measure=>simp [intOf]; omega
  ·obtain rfl:k=l.length:=by omega
   rw [HL.out] at HS
   have HR:=LH (RowSl.of_row sqC_len hown)
   have hsl:=HS.out
   subst hsl
   have hform:∃ a cp,u4=.slice a (secF [] l).length cp:=by
    rcases hown.2 with ⟨rfl,h0⟩ | ⟨g,cap,cur,rfl,_⟩
    ·exact ⟨_,_,by rw [h0]⟩
    ·exact ⟨_,_,rfl⟩
   obtain ⟨ua,ucp,rfl⟩:=hform
   clear HV HT HB HL hown HS HG
   go_wp2
   go_ret2
   exact ⟨_,rfl,hQ,HR.out⟩
def erF (l:List Ct):Int:=if chkF l=0 then 0 else 1
def totR (l:List Ct):Int:=if chkF l=0 then totF l else 0
def secR (l:List Ct):List (Int × Int):=if chkF l=0 then secF [] l else []
def covR (l:List Ct) (n:Int):Bool:=if chkF l=0∧0≤n∧n≤512 then covF l n else false
def ecF (l:List Ct) (n:Int):Int:=if chkF l=0 then if 0≤n∧n≤512 then 0 else 2 else 1
def prR (l:List Ct):Str:=if chkF l=0 then textF l else []
def SplR (l S:List Ct):Prop:=(Good l∧SplOk l S)∨(chkF l≠0∧S=[])
theorem ctSl_nil (w:World) (a:Option Addr) (c:Nat):CtSl w (.slice a 0 c) []:=⟨a,c,rfl,fun _ hi=>absurd hi (Nat.not_lt_zero _)⟩
theorem SplR.one {l S T:List Ct} (h:SplR l S) (k:SplR l T):S=T:=by
 rcases h with ⟨hg,h⟩ | ⟨h0,rfl⟩
 ·rcases k with ⟨-,k⟩ | ⟨k0,rfl⟩
  ·exact sorted_unique (r:=fun x y=>behF x y=true) beh_trans beh_irr (h.strict hg) (k.strict hg) (fun x=>by rw [h.perm.mem_iff,k.perm.mem_iff])
  ·exact absurd ((good_iff l).2 hg) k0
 ·rcases k with ⟨kg,k⟩ | ⟨k0,rfl⟩
  ·exact absurd ((good_iff l).2 kg) h0
  ·rfl
theorem splF_le12:∀ l:List Ct,(∀ x∈l,x.ms.length≤12)→(splF l).length≤12*l.length
 | [],_=>by simp [splF]
 | x::l,h=>by
  have ih:=splF_le12 l (fun y hy=>h y (by simp [hy]))
  have hx:=h x (by simp)
  unfold splF spl at *
  rw [List.flatMap_cons,List.length_append,List.length_map,List.length_cons]
  omega
theorem SplR.small {l S:List Ct} (h:SplR l S) (hl:l.length≤12) (hm:∀ x∈l,x.ms.length≤12):S.length≤1000000∧∀ x∈S,x.ms.length≤1000000:=by
 rcases h with ⟨hg,h⟩ | ⟨h0,rfl⟩
 ·have:=splF_le12 l hm
  refine ⟨by rw [h.perm.length_eq]; omega,fun x hx=>?_⟩
  obtain ⟨m,e⟩:=h.one x hx
  rw [e,List.length_singleton]; omega
 ·exact ⟨by simp,fun x hx=>by cases hx⟩
section
variable {l:List Ct}
theorem hlm (hl:l.length≤12) (hm:∀ x∈l,x.ms.length≤12):l.length≤1000000∧∀ x∈l,x.ms.length≤1000000:=⟨by omega,fun x hx=>by have:=hm x hx; omega⟩
theorem cut_Total_r (hl:l.length≤12) (hm:∀ x∈l,x.ms.length≤12) (v:Value) (w:World) (hv:CtSl w v l):Calls Tryz.prog 10 #[v] w fun e w'=>e=.returned (.tuple #[.int .i64 (totR l),.int .i64 (erF l)])∧Q w w':=by
 have ⟨hl1,hm1⟩:=hlm hl hm
 unfold totR erF
 by_cases hc:chkF l=0
 ·rw [if_pos hc,if_pos hc]
  exact cut_Total l ((good_iff l).1 hc) (fun x hx=>by have:=hm x hx; omega) v w hv
 ·rw [if_neg hc,if_neg hc]
  exact cut_Total_bad l hl1 hm1 hc v w hv
theorem cut_Sections_r (hl:l.length≤12) (hm:∀ x∈l,x.ms.length≤12) (v:Value) (w:World) (hv:CtSl w v l):Calls Tryz.prog 11 #[v] w fun e w'=>∃ v',e=.returned (.tuple #[v',.int .i64 (erF l)])∧Q w w'∧RowSl 3 sqC w' v' (secR l):=by
 have ⟨hl1,hm1⟩:=hlm hl hm
 unfold secR erF
 by_cases hc:chkF l=0
 ·rw [if_pos hc,if_pos hc]
  exact cut_Sections l ((good_iff l).1 hc) (fun x hx=>by have:=hm x hx; omega) v w hv
 ·rw [if_neg hc,if_neg hc]
  refine (cut_Sections_bad l hl1 hm1 hc v w hv).mono ?_
  rintro e w' ⟨rfl,hq⟩
  exact ⟨_,rfl,hq,RowSl.nil _ _ _⟩
theorem cut_Split_r (hl:l.length≤12) (hm:∀ x∈l,x.ms.length≤12) (v:Value) (w:World) (hv:CtSl w v l):Calls Tryz.prog 9 #[v] w fun e w'=>∃ v' S,e=.returned (.tuple #[v',.int .i64 (erF l)])∧Q w w'∧SplR l S∧CtSl w' v' S:=by
 have ⟨hl1,hm1⟩:=hlm hl hm
 unfold erF
 by_cases hc:chkF l=0
 ·rw [if_pos hc]
  refine (cut_Split l ((good_iff l).1 hc) (fun x hx=>by have:=hm x hx; omega) v w hv).mono ?_
  rintro e w' ⟨v',S,rfl,hq,hS,hv'⟩
  exact ⟨v',S,rfl,hq,.inl ⟨(good_iff l).1 hc,hS⟩,hv'⟩
 ·rw [if_neg hc]
  refine (cut_Split_bad l hl1 hm1 hc v w hv).mono ?_
  rintro e w' ⟨rfl,hq⟩
  exact ⟨_,[],rfl,hq,.inr ⟨hc,rfl⟩,ctSl_nil _ _ _⟩
theorem cut_Covers_r (n:Int) (hl:l.length≤12) (hm:∀ x∈l,x.ms.length≤12) (v:Value) (w:World) (hv:CtSl w v l):Calls Tryz.prog 12 #[v,.int .i64 n] w fun e w'=>e=.returned (.tuple #[.bool (covR l n),.int .i64 (ecF l n)])∧Q w w':=by
 have ⟨hl1,hm1⟩:=hlm hl hm
 unfold covR ecF
 by_cases hc:chkF l=0
 ·by_cases hn:0≤n∧n≤512
  ·rw [if_pos ⟨hc,hn⟩,if_pos hc,if_pos hn]
   exact cut_Covers l ((good_iff l).1 hc) (fun x hx=>by have:=hm x hx; omega) n hn.1 hn.2 v w hv
  ·rw [if_neg (fun h=>hn h.2),if_pos hc,if_neg hn]
   exact cut_Covers_range l ((good_iff l).1 hc) n (by omega) v w hv
 ·rw [if_neg (fun h=>hc h.1),if_neg hc]
  exact cut_Covers_bad l hl1 hm1 hc n v w hv
theorem cut_Print_r (hl:l.length≤12) (hm:∀ x∈l,x.ms.length≤12) (v:Value) (w:World) (hE:Env w) (hv:CtSl w v l):Calls Tryz.prog 18 #[v] w fun e w'=>e=.returned (.tuple #[.string ⟨(prR l).toArray⟩,.int .i64 (erF l)])∧Q w w':=by
 have ⟨hl1,hm1⟩:=hlm hl hm
 unfold prR erF
 by_cases hc:chkF l=0
 ·rw [if_pos hc,if_pos hc]
  exact cut_Print l ((good_iff l).1 hc) v w hE hv
 ·rw [if_neg hc,if_neg hc]
  exact cut_Print_bad l hl1 hm1 hc v w hv
theorem ref_Total_r (hl:l.length≤12) (hm:∀ x∈l,x.ms.length≤12) (v:Value) (w:World) (hv:CtSl w v l):Calls Tryz.prog 20 #[v] w fun e w'=>e=.returned (.tuple #[.int .i64 (totR l),.int .i64 (erF l)])∧Q w w':=by
 have ⟨hl1,hm1⟩:=hlm hl hm
 unfold totR erF
 by_cases hc:chkF l=0
 ·rw [if_pos hc,if_pos hc]
  exact ref_Total l ((good_iff l).1 hc) (fun x hx=>by have:=hm x hx; omega) v w hv
 ·rw [if_neg hc,if_neg hc]
  exact ref_Total_bad l hl1 hm1 hc v w hv
theorem ref_Sections_r (hl:l.length≤12) (hm:∀ x∈l,x.ms.length≤12) (v:Value) (w:World) (hv:CtSl w v l):Calls Tryz.prog 21 #[v] w fun e w'=>∃ v',e=.returned (.tuple #[v',.int .i64 (erF l)])∧Q w w'∧RowSl 3 sqC w' v' (secR l):=by
 have ⟨hl1,hm1⟩:=hlm hl hm
 unfold secR erF
 by_cases hc:chkF l=0
 ·rw [if_pos hc,if_pos hc]
  exact ref_Sections l ((good_iff l).1 hc) (fun x hx=>by have:=hm x hx; omega) v w hv
 ·rw [if_neg hc,if_neg hc]
  refine (ref_Sections_bad l hl1 hm1 hc v w hv).mono ?_
  rintro e w' ⟨a,c,rfl,hq⟩
  exact ⟨_,rfl,hq,RowSl.nil _ _ _⟩
theorem ref_Split_r (hl:l.length≤12) (hm:∀ x∈l,x.ms.length≤12) (v:Value) (w:World) (hv:CtSl w v l):Calls Tryz.prog 22 #[v] w fun e w'=>∃ v' S,e=.returned (.tuple #[v',.int .i64 (erF l)])∧Q w w'∧SplR l S∧CtSl w' v' S:=by
 have ⟨hl1,hm1⟩:=hlm hl hm
 unfold erF
 by_cases hc:chkF l=0
 ·rw [if_pos hc]
  refine (ref_Split l ((good_iff l).1 hc) (fun x hx=>by have:=hm x hx; omega) v w hv).mono ?_
  rintro e w' ⟨v',S,rfl,hq,hS,hv'⟩
  exact ⟨v',S,rfl,hq,.inl ⟨(good_iff l).1 hc,hS⟩,hv'⟩
 ·rw [if_neg hc]
  refine (ref_Split_bad l hl1 hm1 hc v w hv).mono ?_
  rintro e w' ⟨a,c,rfl,hq⟩
  exact ⟨_,[],rfl,hq,.inr ⟨hc,rfl⟩,ctSl_nil _ _ _⟩
theorem ref_Covers_r (n:Int) (hl:l.length≤12) (hm:∀ x∈l,x.ms.length≤12) (v:Value) (w:World) (hv:CtSl w v l):Calls Tryz.prog 23 #[v,.int .i64 n] w fun e w'=>e=.returned (.tuple #[.bool (covR l n),.int .i64 (ecF l n)])∧Q w w':=by
 have ⟨hl1,hm1⟩:=hlm hl hm
 unfold covR ecF
 by_cases hc:chkF l=0
 ·by_cases hn:0≤n∧n≤512
  ·rw [if_pos ⟨hc,hn⟩,if_pos hc,if_pos hn]
   exact ref_Covers l ((good_iff l).1 hc) (fun x hx=>by have:=hm x hx; omega) n hn.1 hn.2 v w hv
  ·rw [if_neg (fun h=>hn h.2),if_pos hc,if_neg hn]
   exact ref_Covers_range l ((good_iff l).1 hc) n (by omega) v w hv
 ·rw [if_neg (fun h=>hc h.1),if_neg hc]
  exact ref_Covers_bad l hl1 hm1 hc n v w hv
theorem ref_Print_r (hl:l.length≤12) (hm:∀ x∈l,x.ms.length≤12) (v:Value) (w:World) (hv:CtSl w v l):Calls Tryz.prog 24 #[v] w fun e w'=>e=.returned (.tuple #[.string ⟨(prR l).toArray⟩,.int .i64 (erF l)])∧Q w w':=by
 have ⟨hl1,hm1⟩:=hlm hl hm
 unfold prR erF
 by_cases hc:chkF l=0
 ·rw [if_pos hc,if_pos hc]
  exact ref_Print l ((good_iff l).1 hc) v w hv
 ·rw [if_neg hc,if_neg hc]
  exact ref_Print_bad l hl1 hm1 hc v w hv
end
set_option maxRecDepth 100000 in
theorem others_law (l:List Ct) (hn:l.length<4611686018427387904) (n:Int) (s:Str) (hsl:s.length≤9223372036854775807) (v:Value) (w:World) (hE:Env w) (hv:CtSl w v l) :
  Calls Tryz.prog 5 #[v,.int .i64 n,.string ⟨s.toArray⟩] w fun e w'=>e=.returned (.bool true)∧Q w w':=by
 have HV:Hid (∀ W,Q w W→CtSl W v l):=LH (fun W hq=>hv.keep hq)
 have HA:=LH (fun w hw=>awake42 w hw)
 have HG:=LH (ref_Great l hn v w hv)
 obtain ⟨a,cap,rfl,-⟩:=hv
 go_enter Tryz.func5,Tryz.ntmps5
 go_wp2_with fail
 refine HG.out.mono ?_
 rintro e w1 ⟨g,rfl,hg,rfl⟩
 clear HG
 cases g
 ·obtain ⟨hl12,hm12⟩:=hg.out rfl
  clear hg
  by_cases hs:100<s.length
  ·have hz:(100:Int)<s.length:=by omega
   clear hm12 HV hs
   go_wp2_with fail
   refine (HA.out _ hE).mono ?_
   rintro e w2 ⟨rfl,hq2⟩
   go_wp2
   go_ret
   exact ⟨rfl,hq2⟩
  ·have hz:¬ (100:Int)<s.length:=by omega
   have hl1:l.length≤1000000:=by omega
   have hm1:∀ x∈l,x.ms.length≤1000000:=fun x hx=>by have:=hm12 x hx; omega
   have HTa:=LH (fun w h=>cut_Total_r hl12 hm12 (.slice a l.length cap) w h)
   have HTb:=LH (fun w h=>ref_Total_r hl12 hm12 (.slice a l.length cap) w h)
   have HSa:=LH (fun w h=>cut_Sections_r hl12 hm12 (.slice a l.length cap) w h)
   have HSb:=LH (fun w h=>ref_Sections_r hl12 hm12 (.slice a l.length cap) w h)
   have HPa:=LH (fun w h=>cut_Split_r hl12 hm12 (.slice a l.length cap) w h)
   have HPb:=LH (fun w h=>ref_Split_r hl12 hm12 (.slice a l.length cap) w h)
   have HCa:=LH (fun w h=>cut_Covers_r n hl12 hm12 (.slice a l.length cap) w h)
   have HCb:=LH (fun w h=>ref_Covers_r n hl12 hm12 (.slice a l.length cap) w h)
   have HQa:=LH (fun w hE h=>cut_Print_r hl12 hm12 (.slice a l.length cap) w hE h)
   have HQb:=LH (fun w h=>ref_Print_r hl12 hm12 (.slice a l.length cap) w h)
   have HXa:=LH (cut_Parse s (by omega))
   have HXb:=LH (ref_Parse s (by omega))
   have HKa:=LH (fun w h=>cut_Check l hl1 hm1 (.slice a l.length cap) w h)
   have HKb:=LH (fun w h=>ref_Check l hl1 hm1 (.slice a l.length cap) w h)
   have HEq:=LH (fun v1 v2 w h1 h2=>equal_sq (secR l) (by
    unfold secR
    split
    ·have:=secF_len l []
     rw [List.length_nil] at this; omega
    ·simp) v1 v2 w h1 h2)
   clear hs hl1 hm1
   generalize totR l=tt at *
   generalize secR l=sl at *
   generalize covR l n=cv at *
   generalize ecF l n=ec at *
   generalize prR l=pr at *
   generalize erF l=er at *
   generalize chkF l=ck at *
   have hQ0:=Q.refl w
   go_wp2_with fail
   refine (HTa.out _ (HV.out _ hQ0)).mono ?_
   rintro e w1 ⟨rfl,hq1⟩
   have hQ1:=Q.trans hQ0 hq1
   clear HTa hq1 hQ0
   go_wp2_with fail
   refine (HTb.out _ (HV.out _ hQ1)).mono ?_
   rintro e w2 ⟨rfl,hq2⟩
   have hQ2:=Q.trans hQ1 hq2
   clear HTb hq2 hQ1
   go_wp2_with fail
   refine (HSa.out _ (HV.out _ hQ2)).mono ?_
   rintro e w3 ⟨u1,rfl,hq3,hu1⟩
   have hQ3:=Q.trans hQ2 hq3
   clear HSa hq3 hQ2
   go_wp2_with fail
   refine (HSb.out _ (HV.out _ hQ3)).mono ?_
   rintro e w4 ⟨u2,rfl,hq4,hu2⟩
   have hQ4:=Q.trans hQ3 hq4
   replace hu1:=hu1.keep hq4
   clear HSb hq4 hQ3
   go_wp2_with fail
   refine (HPa.out _ (HV.out _ hQ4)).mono ?_
   rintro e w5 ⟨u3,S,rfl,hq5,hS,hu3⟩
   have hQ5:=Q.trans hQ4 hq5
   replace hu1:=hu1.keep hq5
   replace hu2:=hu2.keep hq5
   clear HPa hq5 hQ4
   go_wp2_with fail
   refine (HPb.out _ (HV.out _ hQ5)).mono ?_
   rintro e w6 ⟨u4,S',rfl,hq6,hS',hu4⟩
   have hQ6:=Q.trans hQ5 hq6
   replace hu1:=hu1.keep hq6
   replace hu2:=hu2.keep hq6
   replace hu3:=hu3.keep hq6
   obtain rfl:=hS.one hS'
   clear HPb hq6 hQ5
   go_wp2_with fail
   refine (HCa.out _ (HV.out _ hQ6)).mono ?_
   rintro e w7 ⟨rfl,hq7⟩
   have hQ7:=Q.trans hQ6 hq7
   replace hu1:=hu1.keep hq7
   replace hu2:=hu2.keep hq7
   replace hu3:=hu3.keep hq7
   replace hu4:=hu4.keep hq7
   clear HCa hq7 hQ6
   go_wp2_with fail
   refine (HCb.out _ (HV.out _ hQ7)).mono ?_
   rintro e w8 ⟨rfl,hq8⟩
   have hQ8:=Q.trans hQ7 hq8
   replace hu1:=hu1.keep hq8
   replace hu2:=hu2.keep hq8
   replace hu3:=hu3.keep hq8
   replace hu4:=hu4.keep hq8
   clear HCb hq8 hQ7
   go_wp2_with fail
   refine (HQa.out _ (hE.q hQ8) (HV.out _ hQ8)).mono ?_
   rintro e w9 ⟨rfl,hq9⟩
   have hQ9:=Q.trans hQ8 hq9
   replace hu1:=hu1.keep hq9
   replace hu2:=hu2.keep hq9
   replace hu3:=hu3.keep hq9
   replace hu4:=hu4.keep hq9
   clear HQa hq9 hQ8
   go_wp2_with fail
   refine (HQb.out _ (HV.out _ hQ9)).mono ?_
   rintro e w10 ⟨rfl,hq10⟩
   have hQ10:=Q.trans hQ9 hq10
   replace hu1:=hu1.keep hq10
   replace hu2:=hu2.keep hq10
   replace hu3:=hu3.keep hq10
   replace hu4:=hu4.keep hq10
   clear HQb hq10 hQ9
   obtain ⟨hSl,hSm⟩:=hS.small hl12 hm12
   clear hS hS' hm12
   go_wp2_with fail
   refine (HXa.out _ (hE.q hQ10)).mono ?_
   rintro e w11 ⟨v1,er1,rfl,hR1,hq11⟩
   have hQ11:=Q.trans hQ10 hq11
   replace hu1:=hu1.keep hq11
   replace hu2:=hu2.keep hq11
   replace hu3:=hu3.keep hq11
   replace hu4:=hu4.keep hq11
   clear HXa hQ10
   go_wp2_with fail
   refine (HXb.out _).mono ?_
   rintro e w12 ⟨v2,er2,rfl,hR2,hq12⟩
   have hQ12:=Q.trans hQ11 hq12
   replace hu1:=hu1.keep hq12
   replace hu2:=hu2.keep hq12
   replace hu3:=hu3.keep hq12
   replace hu4:=hu4.keep hq12
   obtain ⟨M,rfl,hM1,hM2,hv1,hv2⟩:∃ M:List Ct,er1=er2∧M.length≤1000000∧(∀ x∈M,x.ms.length≤1000000)∧CtSl w12 v1 M∧CtSl w12 v2 M:=by
    rcases hR1.out with ⟨rfl,rfl,h1⟩ | ⟨rfl,L1,h1,k1⟩
    ·rcases hR2.out with ⟨rfl,⟨a,c,rfl⟩,h2⟩ | ⟨rfl,L2,h2,k2⟩
     ·exact ⟨[],rfl,by simp,(fun x hx=>by cases hx),ctSl_nil _ _ _,ctSl_nil _ _ _⟩
     ·exact absurd h2 (h1 L2)
    ·rcases hR2.out with ⟨rfl,-,h2⟩ | ⟨rfl,L2,h2,k2⟩
     ·exact absurd h1 (h2 L1)
     ·obtain rfl:=h1.one h2
      exact ⟨L1,rfl,by have:=h1.2.1.len; omega,(fun x hx=>by have:=(h1.2.1.txt x hx).2; omega),k1.keep hq12,k2⟩
   clear HXb hQ11 hR1 hR2 hq11 hq12
   go_wp2_with fail
   refine (HKa.out _ (HV.out _ hQ12)).mono ?_
   rintro e w13 ⟨rfl,hq13⟩
   have hQ13:=Q.trans hQ12 hq13
   replace hu1:=hu1.keep hq13
   replace hu2:=hu2.keep hq13
   replace hu3:=hu3.keep hq13
   replace hu4:=hu4.keep hq13
   replace hv1:=hv1.keep hq13
   replace hv2:=hv2.keep hq13
   clear HKa hQ12 hq13
   go_wp2_with fail
   refine (HKb.out _ (HV.out _ hQ13)).mono ?_
   rintro e w14 ⟨rfl,hq14⟩
   have hQ14:=Q.trans hQ13 hq14
   replace hu1:=hu1.keep hq14
   replace hu2:=hu2.keep hq14
   replace hu3:=hu3.keep hq14
   replace hu4:=hu4.keep hq14
   replace hv1:=hv1.keep hq14
   replace hv2:=hv2.keep hq14
   clear HKb hQ13 hq14 HV
   go_wp2_with fail
   refine (HEq.out _ _ _ hu1 hu2).mono ?_
   rintro e w15 ⟨rfl,hq15⟩
   have hQ15:=Q.trans hQ14 hq15
   replace hu3:=hu3.keep hq15
   replace hu4:=hu4.keep hq15
   replace hv1:=hv1.keep hq15
   replace hv2:=hv2.keep hq15
   clear HEq hQ14 hq15 hu1 hu2
   go_wp2_with fail
   refine (ref_Same S hSl hSm _ _ _ hu3 hu4).mono ?_
   rintro e w16 ⟨rfl,hq16⟩
   have hQ16:=Q.trans hQ15 hq16
   replace hv1:=hv1.keep hq16
   replace hv2:=hv2.keep hq16
   clear hQ15 hq16 hu3 hu4
   go_wp2_with fail
   refine (ref_Same M hM1 hM2 _ _ _ hv1 hv2).mono ?_
   rintro e w17 ⟨rfl,hq17⟩
   have hQ17:=Q.trans hQ16 hq17
   clear hQ16 hq17 hv1 hv2
   go_wp2_with fail
   refine (HA.out _ (hE.q hQ17)).mono ?_
   rintro e w18 ⟨rfl,hq18⟩
   have hQ18:=Q.trans hQ17 hq18
   go_wp2
   go_ret
   exact ⟨rfl,hQ18⟩
 ·clear hg
  go_wp2_with fail
  refine (HA.out _ hE).mono ?_
  rintro e w2 ⟨rfl,hq2⟩
  go_wp2
  go_ret
  exact ⟨rfl,hq2⟩
end
end Go.Proofs.YtohlpeicpoaanaaGreatDoor
