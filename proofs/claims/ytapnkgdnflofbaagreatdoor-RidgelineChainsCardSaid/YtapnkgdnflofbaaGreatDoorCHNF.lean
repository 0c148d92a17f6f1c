/-
  ridgeline.Chains: the map of the ends.
-/
import Derived.Test.YtapnkgdnflofbaaGreatDoorCH23
import Derived.Test.YtapnkgdnflofbaaGreatDoorCH05
import Derived.Test.YtapnkgdnflofbaaGreatDoorCHNE
set_option maxRecDepth 100000
set_option maxHeartbeats 16000000
namespace Go.Proofs.YtapnkgdnflofbaaGreatDoor
open Go.RowKit Go.Shelf Kp
open Go.Lib (decDigits)
attribute [local go_sem] Oper.semAt_some
theorem zi0(A B C A' B' C':Str)(w:World):(Op.equalIn 10000 32 (.agg #[.string ⟨A.toArray⟩,.string ⟨B.toArray⟩,.string ⟨C.toArray⟩]) (.agg #[.string ⟨A'.toArray⟩,.string ⟨B'.toArray⟩,.string ⟨C'.toArray⟩])).run Tryz.prog w=.ok (decide (A=A'∧B=B'∧C=C')) w:=by
 have u3:=Tryz.underlying30
 have a3:=Tryz.isAgg30
 have z3:=Tryz.sizeOf30
 rw[show (10000:Nat)=9999+1 from rfl,Op.equalIn]
 simp only[Sem.run_bind,run_underlying Tryz.underlying32,Result.andThen_ok]
 go_simp
 by_cases h1:A=A' <;> by_cases h2:B=B' <;> by_cases h3:C=C' <;> simp[h1,h2,h3]
theorem zrV(n:Nat)(b:Bool)(A B C:Str)(w:World):(Instr.checkKey b (n+1+1) 32 (.agg #[.string ⟨A.toArray⟩,.string ⟨B.toArray⟩,.string ⟨C.toArray⟩])).run Tryz.prog w=.ok () w:=by
 have u3:=Tryz.underlying30
 have a3:=Tryz.isAgg30
 have z3:=Tryz.sizeOf30
 have hs:∀ (x:Str) w,(Instr.checkKey b (n+1) 30 (.string ⟨x.toArray⟩)).run Tryz.prog w=.ok () w:=fun x w=>by
  rw[Instr.checkKey]
  simp only[Sem.run_bind,run_underlying Tryz.underlying30,Result.andThen_ok]
  rfl
 rw[Instr.checkKey]
 simp only[Sem.run_bind,run_underlying Tryz.underlying32,Result.andThen_ok]
 generalize hg:Instr.checkKey b (n+1) 30=ck at *
 go_simp
theorem zh9:SMap Tryz.prog 62 32 29 where
 und:=Tryz.underlying62
 wide:=by rw[Tryz.underlying32]
 chk:=fun b s w=>by
  obtain⟨A,B,C⟩:=s
  exact zrV 9998 b A B C w
 eq:=fun s t w=>by
  obtain⟨A,B,C⟩:=s
  obtain⟨A',B',C'⟩:=t
  unfold spK
  have h:=zi0 A B C A' B' C' w
  unfold Op.equal
  simp only
  rw[show Op.maxDepth=10000 from rfl,h]
  congr 1
  simp
 zero:=fun w=>by kernel_rfl
theorem zda.keep{w w':World}{B r:Nat}{ti:TypeId}{M:List (S3 × List Nat)}(h:zda w B r ti M)(hq:Q w w'):zda w' B r ti M:=by
 obtain⟨vs,h1,h2⟩:=h
 refine⟨vs,⟨h1.len,fun j v m a b=>zi (h1.own j v m a b) hq,h1.apart,h1.full⟩,?_⟩
 unfold zms at *
 rw[hq.block r (Array.getElem?_eq_some_iff.1 h2).1]
 exact h2
theorem zda.lt{w:World}{B r:Nat}{ti:TypeId}{M:List (S3 × List Nat)}(h:zda w B r ti M):r<w.heap.size:=by
 obtain⟨vs,h1,h2⟩:=h
 exact(Array.getElem?_eq_some_iff.1 h2).1
theorem zda.start(w:World)(B:Nat)(ti:TypeId)(c:Nat)(hc:c=0):zda (w.alloc (.map #[] c)) B w.heap.size ti []:=by
 subst hc
 refine⟨[],⟨rfl,fun j v m h=>by simp at h,fun j k a b _ h=>by simp at h,fun m h=>by simp at h⟩,?_⟩
 unfold zms
 rw[heap_alloc_new]
 rfl
theorem zmg{w:World}{B r:Nat}{M:List (S3 × List Nat)}(hM:zda w B r 3 M)(hB:B≤r)(s:S3)(i:Nat) :
  ∃ (v:Value) (j:Nat) (o:Obj),(Instr.mapEntry 62 (.map (some r)) (spK s)).run Tryz.prog w=.ok (.tuple #[v,.int .i64 j]) (w.putObj r o) ∧
   (w.putObj r o).ownsRow B 3 1 v (getM s M).length (ivs (getM s M))∧(w.putObj r o).heap.size=w.heap.size∧(∀ g,g≠r→(w.putObj r o).heap[g]? = w.heap[g]?) ∧
   ∀ (w3:World) (u:Value),w3.ownsRow B 3 1 u ((getM s M).length+1) (ivs (getM s M)++[.int .i64 (i:Int)])→(w.putObj r o).grownBy w3 v.ownBlock→(u.ownBlock=v.ownBlock∨u.ownBlock=some (w.putObj r o).heap.size) →
    ∃ o2,(Instr.entryStore 62 (.map (some r)) (.int .i64 j) u).run Tryz.prog w3=.ok () (w3.putObj r o2)∧zda (w3.putObj r o2) B r 3 (zjD s i M)∧Below B w (w3.putObj r o2):=by
 have hr:=hM.lt
 obtain⟨v,j,o,hme,-,hown,hst⟩:=zqI zh9 hM s i
 have hsz:(w.putObj r o).heap.size=w.heap.size:=World.putObj_size
 have hot:∀ g,g≠r→(w.putObj r o).heap[g]? = w.heap[g]?:=fun g h=>World.putObj_heap_other h
 have hvr:v.ownBlock≠some r:=fun h=>by
  obtain⟨-,cur,hc⟩:=zaN hown h
  obtain⟨vs,-,hm⟩:=hM
  exact hm.not_cells hc rfl
 have hvB:∀ g,v.ownBlock=some g→B≤g:=fun g h=>by
  rcases hown.2 with⟨rfl,-⟩|⟨g',cap,cur,rfl,hg,-⟩
  ·cases h
  ·cases h
   exact hg
 refine⟨v,j,o,hme,zbf hown fun g hg=>hot g fun h=>hvr (by rw[hg,h]),hsz,hot,fun w3 u hu hgr hat=>?_⟩
 have h3r:w3.heap[r]? = some o:=by rw[hgr.block r (by rw[hsz];exact hr) (Ne.symm hvr)];exact World.putObj_heap_same hr
 have h3s:w.heap.size≤w3.heap.size:=by rw[← hsz];exact hgr.size
 have h3b:∀ g,g<w.heap.size→some g≠v.ownBlock→g≠r→w3.heap[g]? = w.heap[g]?:=fun g h1 h2 h4=>by rw[hgr.block g (by rw[hsz];exact h1) h2];exact hot g h4
 obtain⟨o2,he,-,hE⟩:=hst w3 u h3r h3s h3b hu (hat.imp id fun h=>⟨_,h,by rw[hsz];exact Nat.le_refl _⟩)
 refine⟨o2,he,hE,⟨?_,?_,?_,?_,?_⟩⟩
 ·exact hgr.os
 ·exact hgr.tape
 ·exact hgr.output
 ·rw[World.putObj_size];exact h3s
 ·intro g hg
  rw[World.putObj_heap_other (by omega)]
  exact h3b g (by omega) (fun h=>by have:=hvB g h.symm;omega) (by omega)
theorem zqn:(Tryz.prog.info? 4).map (fun i=>(i.zero,i.size,i.bytes))=some (some (.bool false),1,1):=by kernel_rfl
theorem zmw(s t:S3)(i:Nat)(M:List (S3 × List Nat)):(getM s (zjD t i M)).length≤(getM s M).length+1:=by
 rw[zkY]
 split
 ·rename_i h
  subst h
  simp
 ·omega
theorem zgx(L:List Ln)(k:Int)(s:S3):∀ i,(getM s (zce L k i)).length≤2*i
 | 0=>by simp[zce,getM]
 | i+1=>by
  have ih:=zgx L k s i
  unfold zce
  split
  ·split
   ·rename_i x _ _
    have h1:=zmw s x.t i (zjD x.f i (zce L k i))
    have h2:=zmw s x.f i (zce L k i)
    omega
   ·omega
  ·omega
def bls(s:List Bool):List Value:=s.map Value.bool
theorem zsi{s:List Bool}{i:Nat}{b:Bool}(h:s[i]? = some b):(bls s)[i]? = some (.bool b):=by unfold bls;rw[List.getElem?_map,h];rfl
theorem zqR(s:List Bool)(i:Nat):(bls s).set i (.bool true)=bls (s.set i true):=by unfold bls;rw[List.map_set]
theorem ztb(n:Nat):List.replicate n (Value.bool false)=bls (List.replicate n false):=by unfold bls;rw[List.map_replicate]
theorem znF{w:World}{B:Nat}{t:TypeId}{n g:Nat}{xs:List Value}(h:w.ownsRow B t 1 (.slice (some ⟨g,0,none⟩) n n) n xs):Blk w g xs t:=by
 rcases h.2 with⟨e,-⟩|⟨g',cap,cur,e,hg,hc,-,-,hs,ht⟩
 ·cases e
 ·cases e
  unfold Blk
  rw[hc]
  have h1:cur.toList=xs:=by
   rw[← ht,List.take_of_length_le (by rw[Array.length_toList,hs];exact Nat.le_refl _)]
  rw[← h1]
theorem zhd{w w1 w2:World}{row r:Option Nat}(h:w.grownBy w1 row)(k:w1.grownBy w2 r)(hr:∀ g,r=some g→w.heap.size≤g):w.grownBy w2 row :=
 ⟨k.os.trans h.os,k.tape.trans h.tape,k.output.trans h.output,Nat.le_trans h.size k.size,fun j hj hne=>(k.block j (Nat.lt_of_lt_of_le hj h.size) (fun e=>by have:=hr j e.symm;omega)).trans (h.block j hj hne)⟩
theorem zne{w w1:World}{row:Option Nat}(h:w.grownBy w1 row)(o:Obj):w.grownBy (w1.alloc o) row:=zhd h (World.grownBy_alloc w1 o none) (fun g e=>by cases e)
theorem zjI{w w':World}(h:w.grownBy w' none):Q w w':=⟨h.os,h.tape,h.output,h.size,fun k hk=>h.block k hk (fun e=>by cases e)⟩
def Out(w:World)(B:Nat)(vo:Value)(outs:List (List Nat)):Prop:=∃ vs:List Value,vs.length=outs.length∧w.ownsRow B 29 1 vo outs.length vs∧∀ (j:Nat) v x,vs[j]? = some v→outs[j]? = some x→w.ownsRow B 3 1 v x.length (ivs x)
theorem Out.start(w:World)(B:Nat):Out w B (.slice none 0 0) []:=⟨[],rfl,World.ownsRow_nil _ _ _ _,fun j v x h=>by simp at h⟩
theorem Out.marks{w w':World}{B:Nat}{vo:Value}{outs:List (List Nat)}{sn:Nat}{cs:List Value}(h:Out w B vo outs)(hs:Blk w sn cs 4)(hg:w.grownBy w' (some sn)):Out w' B vo outs:=by
 obtain⟨vs,h1,h2,h3⟩:=h
 refine⟨vs,h1,zbf h2 fun g hb=>hg.block g (zaN h2 hb).1 fun e=>?_,fun j v x a b=>zbf (h3 j v x a b) fun g hb=>hg.block g (zaN (h3 j v x a b) hb).1 fun e=>?_⟩
 ·exact hs.not_row (by decide) h2 (by rw[hb];exact e.symm)
 ·exact hs.not_row (by decide) (h3 j v x a b) (by rw[hb];exact e.symm)
theorem Out.keep{w w':World}{B:Nat}{vo:Value}{outs:List (List Nat)}(h:Out w B vo outs)(hq:Q w w'):Out w' B vo outs:=by
 obtain⟨vs,h1,h2,h3⟩:=h
 exact⟨vs,h1,zi h2 hq,fun j v x a b=>zi (h3 j v x a b) hq⟩
theorem Out.push{w w':World}{B:Nat}{vo vo' vc:Value}{outs:List (List Nat)}{vs:List Value}{x:List Nat}(h1:vs.length=outs.length)(h2:w.ownsRow B 29 1 vo outs.length vs)(h3:∀ (j:Nat) v x,vs[j]? = some v→outs[j]? = some x→w.ownsRow B 3 1 v x.length (ivs x))(hc:w.ownsRow B 3 1 vc x.length (ivs x))(hg:w.grownBy w' vo.ownBlock)(h4:w'.ownsRow B 29 1 vo' (outs.length+1) (vs++[vc])):Out w' B vo' (outs++[x]):=by
 have key:∀ v (y:List Nat),w.ownsRow B 3 1 v y.length (ivs y)→w'.ownsRow B 3 1 v y.length (ivs y):=fun v y k=>zbf k fun g hb=>hg.block g (zaN k hb).1 fun e=>by
  obtain⟨-,c1,e1⟩:=zaN k hb
  obtain⟨-,c2,e2⟩:=zaN h2 e.symm
  rw[e1]at e2
  injection e2 with e2
  injection e2 with _ e2 _
  exact absurd e2 (by decide)
 refine⟨vs++[vc],by simp[h1],by rw[List.length_append];exact h4,fun j v y a b=>?_⟩
 by_cases hj:j<outs.length
 ·rw[List.getElem?_append_left (by omega)]at a
  rw[List.getElem?_append_left hj]at b
  exact key v y (h3 j v y a b)
 ·have hl:=(List.getElem?_eq_some_iff.1 b).1
  rw[List.length_append,List.length_singleton]at hl
  obtain rfl:j=outs.length:=by omega
  rw[List.getElem?_append_right (by omega),h1,Nat.sub_self]at a
  rw[List.getElem?_append_right (Nat.le_refl _),Nat.sub_self]at b
  cases a
  cases b
  exact key _ _ hc
theorem zi1{w:World}{B r:Nat}{M:List (S3 × List Nat)}(hM:zda w B r 3 M)(s:S3) :
  ∃ v,(∀ w',Q w w'→(Instr.lookup 62 (.map (some r)) (spK s) false).run Tryz.prog w'=.ok v w')∧w.ownsRow B 3 1 v (getM s M).length (ivs (getM s M)):=by
 obtain⟨vs,hv,hm⟩:=hM
 have hm':∀ w',Q w w'→zms w' r (zjz M vs):=fun w' hq=>by
  unfold zms at *
  rw[hq.block r (Array.getElem?_eq_some_iff.1 hm).1]
  exact hm
 rcases zic s 0 M vs 0 hv.len with⟨h1,h2,-⟩|⟨j,v,l,h1,h2,h3,h4,-⟩
 ·refine⟨.slice none 0 0,fun w' hq=>?_,by rw[h2];exact World.ownsRow_nil _ _ _ _⟩
  have hl:=zjP zh9 (hm' w' hq) s
  rw[h1]at hl
  exact hl
 ·refine⟨v,fun w' hq=>?_,by rw[h4];exact hv.own j v _ h2 h3⟩
  have hl:=zjP zh9 (hm' w' hq) s
  rw[h1]at hl
  exact hl
theorem zqk:(Tryz.prog.info? 29).map (fun i=>(i.zero,i.size,i.bytes))=some (some (.slice none 0 0),1,24):=by kernel_rfl
theorem ztN{x:List Nat}(h:x.Pairwise (·≤·))(hn:x.Nodup):x.Pairwise (·<·):=(h.and hn).imp fun⟨a,b⟩=>by omega
theorem zlv(L:List Ln)(hn:L.length≤8)(hx:∀ x∈L,LnR x)(k:Int)(v:Value)(w:World)(hE:Env w)(hS:za9 w)(hv:zba 9 lnC w v L) :
  Calls Tryz.prog 6 #[v,.int .i64 k] w fun e w'=>∃ (vo:Value) (outs:List (List Nat)) (s:List Bool),e=.returned (.tuple #[vo,.int .i64 0])∧Q w w'∧Out w' w.heap.size vo outs∧Chs (zjL L k) L.length s outs:=by
 have HC:=LH (zmF L hn hx v w hE hS hv)
 have HV:=LH hv
 obtain⟨a,cap,rfl,-⟩:=hv
 obtain⟨i0,hi,hz0,hz1,hz2⟩:=zbU zdz
 clear hx hS
 have hn1:(0:Int)≤L.length:=by omega
 go_enter Tryz.func6,Tryz.ntmps6
 go_wp2_with fail
 refine HC.out.mono ?_
 rintro e w1⟨rfl,hq1⟩
 clear HC
 have hE1:=zda.start w1 w.heap.size 3 0 rfl
 have hqm:Q w (w1.alloc (.map #[] 0)):=Q.trans hq1 bt
 have hBr:w.heap.size≤w1.heap.size:=hq1.size
 have hmm:(Instr.makeMap 62 none).run Tryz.prog w1=.ok (.map (some w1.heap.size)) (w1.alloc (.map #[] 0)):=rfl
 go_wp2
 clear hmm
 generalize hr:w1.heap.size=r at *
 go_loopw [27] (fun i wr=>∃ n:Nat,n≤L.length∧i=.int .i64 n∧Q w wr∧zda wr w.heap.size r 3 (zce L k n)) (fun i _=>L.length - (intOf i).toNat)
 case atStart=>exact⟨0,by omega,rfl,hqm,hE1⟩
 case round =>
  obtain⟨n,hnl,rfl,hQ,hM⟩:=hrel
  by_cases hlt:n<L.length
  ·obtain⟨a',cap',he,hc⟩:=(HV.out.keep hQ)
   cases he
   obtain⟨b,o,rfl,hb,hcell⟩:=hc n hlt
   have hln:L[n]? = some L[n]:=List.getElem?_eq_getElem hlt
   have hstep:zce L k (n+1)=if L[n].k=k then zjD L[n].t n (zjD L[n].f n (zce L k n))else zce L k n:=by
    rw[zce,hln]
   clear hc HV hE
   generalize L[n]=x at *
   obtain⟨kk,X,Y,Z,X',Y',Z',l,rr⟩:=x
   unfold lnC at hcell
   unfold Ln.f Ln.t at hstep
   simp only at hcell hstep
   have c0:=hcell 0 _ rfl
   have c1:=hcell 1 _ rfl
   have c2:=hcell 2 _ rfl
   have c3:=hcell 3 _ rfl
   have c4:=hcell 4 _ rfl
   have c5:=hcell 5 _ rfl
   have c6:=hcell 6 _ rfl
   have c7:=hcell 7 _ rfl
   have c8:=hcell 8 _ rfl
   rw[Nat.add_zero]at c0
   clear hcell hln
   by_cases hk:kk=k
   ·subst hk
    rw[if_pos rfl]at hstep
    have hB0:w.heap.size≤wr.heap.size:=hQ.size
    obtain⟨W1,hW1⟩:∃ W1,wr.alloc (.cells #[.int .i64 kk,.string ⟨X.toArray⟩,.string ⟨Y.toArray⟩,.string ⟨Z.toArray⟩,.string ⟨X'.toArray⟩,.string ⟨Y'.toArray⟩,.string ⟨Z'.toArray⟩,.int .i64 l,.int .i64 rr] 34)=W1:=⟨_,rfl⟩
    have BL1:Blk W1 wr.heap.size [.int .i64 kk,.string ⟨X.toArray⟩,.string ⟨Y.toArray⟩,.string ⟨Z.toArray⟩,.string ⟨X'.toArray⟩,.string ⟨Y'.toArray⟩,.string ⟨Z'.toArray⟩,.int .i64 l,.int .i64 rr] 34:=by rw[← hW1];exact Blk.new wr _ _
    have hq01:Q wr W1:=by rw[← hW1];exact bt
    have hsz1:W1.heap.size=wr.heap.size+1:=by rw[← hW1,World.size_alloc]
    obtain⟨W2,hW2⟩:∃ W2,W1.alloc (.cells #[.int .i64 (n:Int)] 3)=W2:=⟨_,rfl⟩
    have BN2:Blk W2 W1.heap.size [.int .i64 (n:Int)] 3:=by rw[← hW2];exact Blk.new W1 _ _
    have hq12:Q W1 W2:=by rw[← hW2];exact bt
    have hM2:=(hM.keep hq01).keep hq12
    obtain⟨v1,j1,o1,hme1,hown1,hz1',hot1,hth1⟩:=zmg hM2 hBr (X,Y,Z) n
    unfold spK at hme1
    simp only at hme1
    obtain⟨W3,hW3⟩:∃ W3,W2.putObj r o1=W3:=⟨_,rfl⟩
    rw[hW3]at hme1 hown1 hz1' hot1 hth1
    have m0:=BL1.cell
    have hrl:r<wr.heap.size:=hM.lt
    have BN3:Blk W3 W1.heap.size [.int .i64 (n:Int)] 3:=by unfold Blk;rw[hot1 _ (by omega)];exact BN2
    have nc:=BN3.cell 0
    simp only[List.getElem?_cons_zero]at nc
    have hln1:(getM (X,Y,Z) (zce L kk n)).length≤1000:=by have:=zgx L kk (X,Y,Z) n;omega
    have HT1:=LH hth1
    have hbs1:w.heap.size≤W3.heap.size:=by rw[hz1'];exact(Q.trans hQ (Q.trans hq01 hq12)).size
    rw[hsz1]at nc
    have hnc:∀ j u,([.int .i64 (n:Int)]:List Value)[j]? = some u→W3.cell? ((⟨wr.heap.size+1,0,none⟩:Addr).add j)=some u:=fun j u h=>by
     match j,h with
     | 0,h =>
      rw[List.getElem?_cons_zero]at h
      rw[← Option.some.inj h]
      exact nc
     | j+1,h=>simp at h
    have hvl:some wr.heap.size≠v1.ownBlock:=fun h=>by
     obtain⟨-,cur,hcur⟩:=zaN hown1 h.symm
     rw[hot1 _ (by omega)]at hcur
     have hbl:=BL1.keep hq12 BL1.lt
     unfold Blk at hbl
     rw[hbl]at hcur
     injection hcur with h1
     injection h1 with _ h2
     exact absurd h2 (by decide)
    have HBL:=LH (fun(w4:World) (o2:Obj) (hg:W3.grownBy w4 v1.ownBlock)=>(show Blk (w4.putObj r o2) wr.heap.size [.int .i64 kk,.string ⟨X.toArray⟩,.string ⟨Y.toArray⟩,.string ⟨Z.toArray⟩,.string ⟨X'.toArray⟩,.string ⟨Y'.toArray⟩,.string ⟨Z'.toArray⟩,.int .i64 l,.int .i64 rr] 34 from by
     have hz3:=hg.size
     have hz12:=hq12.size
     unfold Blk
     rw[World.putObj_heap_other (by omega),hg.block wr.heap.size (by omega) hvl,hot1 _ (by omega)]
     exact BL1.keep hq12 BL1.lt))
    have H2:=LH (fun(W5:World) (hE5:zda W5 w.heap.size r 3 (zjD (X,Y,Z) n (zce L kk n)))=>zmg (hE5.keep (show Q W5 (W5.alloc (.cells #[.int .i64 (n:Int)] 3))from bt)) hBr (X',Y',Z') n)
    clear hvl hot1 hth1
    have HNC:=LH (fun(W5:World) (o3:Obj) (hr5:r<W5.heap.size)=>(show ∀ j u,([.int .i64 (n:Int)]:List Value)[j]? = some u→((W5.alloc (.cells #[.int .i64 (n:Int)] 3)).putObj r o3).cell? ((⟨W5.heap.size,0,none⟩:Addr).add j)=some u from fun j u h=>by
     have hB:Blk ((W5.alloc (.cells #[.int .i64 (n:Int)] 3)).putObj r o3) W5.heap.size [.int .i64 (n:Int)] 3:=by
      unfold Blk
      rw[World.putObj_heap_other (by omega)]
      exact Blk.new W5 _ _
     match j,h with
     | 0,h =>
      rw[List.getElem?_cons_zero]at h
      rw[← Option.some.inj h]
      exact hB.cell 0
     | j+1,h=>simp at h))
    have hln2:(getM (X',Y',Z') (zjD (X,Y,Z) n (zce L kk n))).length≤1000:=by
     have h1:=zmw (X',Y',Z') (X,Y,Z) n (zce L kk n)
     have h2:=zgx L kk (X',Y',Z') n
     omega
    go_wp2_with (first | (at_builtin;refine wpList_append_own_at _ rfl (.tmp 39) (.tmp 41) 29 rfl w.heap.size 3 i0 _ 1 8 Tryz.underlying29 hi hz0 hz1 hz2 rfl (by decide) _ _ _ rfl hown1 ⟨wr.heap.size+1,0,none⟩ 1 1 [.int .i64 (n:Int)] rfl rfl hnc (by simp[Value.oneCell']) (by unfold maxLen;omega) (by omega) hbs1 ?_;intro u1 w4 hu1 hg1 _ hat1;obtain⟨o2,hes1,hE4,hb4⟩:=HT1.out w4 u1 hu1 hg1 hat1;have BL5:=HBL.out w4 o2 hg1;obtain⟨W5,hW5⟩:∃ W5,w4.putObj r o2=W5:=⟨_,rfl⟩;rw[hW5]at hes1 hE4 hb4 BL5;obtain⟨v2,j2,o3,hme2,hown2,hz2',hot2,hth2⟩:=H2.out W5 hE4;unfold spK at hme2;simp only at hme2;have m5:=BL5.cell;have hr5:=hE4.lt;have hnc2:=HNC.out W5 o3 (by omega);have hbs2:w.heap.size≤((W5.alloc (.cells #[.int .i64 (n:Int)] 3)).putObj r o3).heap.size:=(by rw[hz2',World.size_alloc];omega);have HT2:=LH hth2;clear hth2)|(at_builtin;refine wpList_append_own_at _ rfl (.tmp 48) (.tmp 50) 29 rfl w.heap.size 3 i0 _ 1 8 Tryz.underlying29 hi hz0 hz1 hz2 rfl (by decide) _ _ _ rfl hown2 ⟨W5.heap.size,0,none⟩ 1 1 [.int .i64 (n:Int)] rfl rfl hnc2 (by simp[Value.oneCell']) (by unfold maxLen;omega) (by omega) hbs2 ?_;intro u2 w6 hu2 hg2 _ hat2;obtain⟨o4,hes2,hE6,hb6⟩:=HT2.out w6 u2 hu2 hg2 hat2))
    go_roundw
    case rel =>
     have hs5:=hb4.size
     have hs2:=(Q.trans hQ (Q.trans hq01 hq12)).size
     exact⟨n+1,by omega,by go_num,Below.trans hQ (Below.trans ((Q.trans hq01 hq12).mono hQ.size) (Below.trans hb4 (Below.trans ((show Q W5 (W5.alloc (.cells #[.int .i64 (n:Int)] 3))from bt).mono (by omega)) hb6))),by rw[hstep];exact hE6⟩
    case measure=>simp[intOf];omega
   ·rw[if_neg hk]at hstep
    have hkb:(kk == k)=false:=beq_eq_false_iff_ne.2 hk
    go_wp2
    go_roundw
    case rel=>exact⟨n+1,by omega,by go_num,Q.trans hQ bt,by rw[hstep];exact hM.keep bt⟩
    case measure=>simp[intOf];omega
  ·obtain rfl:n=L.length:=by omega
   obtain⟨b0,bi,bz0,bz1,bz2⟩:=zbU zqn
   obtain⟨W5,hmk,hown,hgr⟩:=run_make_full (P:=Tryz.prog) wr w.heap.size 63 4 b0 _ 1 Tryz.underlying63 bi bz0 bz1 .i64 .i64 L.length (by rw[bz2];omega) (by unfold maxLen;omega) hQ.size
   rw[show (Value.bool false).cells=#[Value.bool false]from rfl,Nat.mul_one,toList_madeCells_one,ztb]at hown
   have BS0:=znF hown
   have hq5:Q wr W5:=zjI hgr
   have hs5:wr.heap.size<W5.heap.size:=BS0.lt
   clear hown hgr bi bz0 bz1 bz2
   go_wp2_with fail
   clear hmk
   generalize wr=WA at *
   generalize hsn:WA.heap.size=sn at *
   have HSN:=LH hsn
   have HMA:=LH hM
   clear hsn hM hqm hE1 hq1
   obtain⟨y0,yi,yz0,yz1,yz2⟩:=zbU zqk
   go_loopw [11,60] (fun o i wr=>∃ (n:Nat) (s:List Bool) (outs:List (List Nat)),n≤L.length∧i=.int .i64 n∧Q WA wr∧sn<wr.heap.size∧Blk wr sn (bls s) 4∧Out wr (sn+1) o outs∧Chs (zjL L k) n s outs) (fun _ i _=>L.length - (intOf i).toNat)
   case atStart=>exact⟨0,_,[],by omega,rfl,hq5,hs5,BS0,Out.start _ _,Chs.start (zjL L k)⟩
   case round =>
    obtain⟨n,s,outs,hnl2,rfl,hQA,hsw,BS,hO,hC⟩:=hrel
    clear BS0 hq5 hs5
    by_cases hlt:n<L.length
    ·have hQw:Q w wr:=Q.trans hQ hQA
     obtain⟨a',cap',he,hc⟩:=HV.out
     cases he
     obtain⟨b,o,rfl,hb,-⟩:=hc n hlt
     have HLC:=LH (fun(wq:World) (hq:Q w wq) (j:Nat) (x:Ln) (hx:L[j]? = some x) (i:Nat) (u:Value) (hu:(lnC x)[i]? = some u)=>(show wq.cell? ⟨b,o+j*9+i,none⟩=some u from by
      obtain⟨hj,ej⟩:=List.getElem?_eq_some_iff.1 hx
      obtain⟨a2,c2,e2,h2⟩:=HV.out.keep hq
      cases e2
      obtain⟨b2,o2,e3,-,h3⟩:=h2 j hj
      cases e3
      exact h3 i u (by rw[ej];exact hu)))
     clear hc HV
     have hbr:b<wr.heap.size:=Nat.lt_of_lt_of_le hb hQw.size
     obtain⟨x,hx⟩:∃ x,L[n]? = some x:=⟨_,List.getElem?_eq_getElem hlt⟩
     have hcell:=HLC.out wr hQw n x hx
     obtain⟨kk,X,Y,Z,X',Y',Z',l,rr⟩:=x
     unfold lnC at hcell
     simp only at hcell
     have c0:=hcell 0 _ rfl
     have c1:=hcell 1 _ rfl
     have c2:=hcell 2 _ rfl
     have c3:=hcell 3 _ rfl
     have c4:=hcell 4 _ rfl
     have c5:=hcell 5 _ rfl
     have c6:=hcell 6 _ rfl
     have c7:=hcell 7 _ rfl
     have c8:=hcell 8 _ rfl
     rw[Nat.add_zero]at c0
     have HX:=LH hx
     clear hcell hx
     obtain⟨W1,hW1⟩:∃ W1,wr.alloc (.cells #[.int .i64 kk,.string ⟨X.toArray⟩,.string ⟨Y.toArray⟩,.string ⟨Z.toArray⟩,.string ⟨X'.toArray⟩,.string ⟨Y'.toArray⟩,.string ⟨Z'.toArray⟩,.int .i64 l,.int .i64 rr] 34)=W1:=⟨_,rfl⟩
     have BL1:Blk W1 wr.heap.size [.int .i64 kk,.string ⟨X.toArray⟩,.string ⟨Y.toArray⟩,.string ⟨Z.toArray⟩,.string ⟨X'.toArray⟩,.string ⟨Y'.toArray⟩,.string ⟨Z'.toArray⟩,.int .i64 l,.int .i64 rr] 34:=by rw[← hW1];exact Blk.new wr _ _
     have hq01:Q wr W1:=by rw[← hW1];exact bt
     have BS1:Blk W1 sn (bls s) 4:=BS.keep hq01 hsw
     have hz1:W1.heap.size=wr.heap.size+1:=by rw[← hW1,World.size_alloc]
     have hsw1:sn<W1.heap.size:=by omega
     have HZ1:=LH hz1
     clear hz1
     have m0:=BL1.cell
     by_cases hk:kk=k
     ·subst hk
      obtain⟨bb,hbb⟩:∃ bb,s[n]? = some bb:=⟨_,List.getElem?_eq_getElem (by rw[hC.len];exact hlt)⟩
      have s1:W1.cell? ⟨sn,n,none⟩=some (.bool bb):=by rw[BS1.cell];exact zsi hbb
      have HBB:=LH hbb
      clear hbb
      cases bb
      ·obtain⟨W2,hW2⟩:∃ W2,W1.setCell ⟨sn,n,none⟩ (.bool true)=W2:=⟨_,rfl⟩
       have BS2:Blk W2 sn (bls (s.set n true)) 4:=by rw[← hW2,← zqR];exact BS1.set n _
       have f1:=BS1.frozen n
       have hg2:wr.grownBy W2 (some sn):=by rw[← hW2];exact grownBy_set (zas hq01 _) n _
       obtain⟨W3,hW3⟩:∃ W3,W2.alloc (.cells #[.int .i64 (n:Int)] 3)=W3:=⟨_,rfl⟩
       have hr3:W3.ownsRow wr.heap.size 3 1 (.slice (some ⟨W2.heap.size,0,none⟩) 1 1) 1 (ivs [n]):=⟨rfl,.inr ⟨W2.heap.size,1,#[.int .i64 (n:Int)],rfl,hg2.size,by rw[← hW3];exact heap_alloc_new W2 _,Nat.le_refl _,by unfold maxLen;omega,rfl,rfl⟩⟩
       have BS3:Blk W3 sn (bls (s.set n true)) 4:=by rw[← hW3];exact BS2.alloc _
       have hg3:wr.grownBy W3 (some sn):=by rw[← hW3];exact zne hg2 _
       have HS:=Srch.start (G:=zjL L kk) hC.len hlt ((zho L kk n).2 ⟨_,HX.out,rfl⟩) (by rw[HBB.out];simp)
       go_wp2_with fail
       clear hW1 hW2 hW3 c0 c1 c2 c3 c4 c5 c6 c7 c8 m0 s1 f1 BL1 BS1 BS2 hg2 hq01 HZ1 hsw1 hQw
       generalize wr=WB at *
       have HQA:=LH hQA
       have HC:=LH hC
       have HO:=LH hO
       clear hQA hC hO
       go_loopw [14,15] (fun ch kq wr=>∃ (t:Nat) (s':List Bool) (c:List Nat),kq=.int .i64 t∧t≤c.length∧Srch (zjL L kk) s n t s' c∧WB.grownBy wr (some sn)∧Blk wr sn (bls s') 4∧wr.ownsRow WB.heap.size 3 1 ch c.length (ivs c)) (fun _ kq _=>L.length - (intOf kq).toNat)
       case atStart=>exact⟨0,_,[n],rfl,Nat.zero_le _,HS,hg3,BS3,hr3⟩
       case round =>
        obtain⟨t,s',c,rfl,htc,hS,hg,BQ,hrow⟩:=hrel
        clear HS hg3 BS3 hr3
        by_cases hct:t<c.length
        ·have hQAr:Q WA wr:=Below.grown HQA.out hg HQA.out.size (fun g e=>by cases e;rw[HSN.out];exact Nat.le_refl _)
         have hQw:Q w wr:=Q.trans hQ hQAr
         obtain⟨x,hxt⟩:∃ x,c[t]? = some x:=⟨_,List.getElem?_eq_getElem hct⟩
         have hxn:x<L.length:=hS.lt x (List.mem_of_getElem? hxt)
         obtain⟨y,hy⟩:∃ y,L[x]? = some y:=⟨_,List.getElem?_eq_getElem hxn⟩
         have hky:y.k=kk:=by
          obtain⟨y',e1,e2⟩:=(zho L kk x).1 (hS.own x (List.mem_of_getElem? hxt))
          rw[hy]at e1
          cases e1
          exact e2
         have hcell:=HLC.out wr hQw x y hy
         have hnb:(zjL L kk).nb x=getM y.f (zce L kk L.length)++getM y.t (zce L kk L.length):=by unfold zjL;simp only[hy]
         have p1:0<(getM y.f (zce L kk L.length)).length:=List.length_pos_of_mem ((zhQ L kk y.f x L.length).2 ⟨y,hxn,hy,hky,.inl rfl⟩)
         have p2:0<(getM y.t (zce L kk L.length)).length:=List.length_pos_of_mem ((zhQ L kk y.t x L.length).2 ⟨y,hxn,hy,hky,.inr rfl⟩)
         have n1:(getM y.f (zce L kk L.length)).length≤1000:=by have:=zgx L kk y.f L.length;omega
         have n2:(getM y.t (zce L kk L.length)).length≤1000:=by have:=zgx L kk y.t L.length;omega
         clear hy hky
         obtain⟨gc,cc,rfl,-,-⟩:=hrow.form (by omega)
         have r0:wr.cell? ⟨gc,t,none⟩=some (.int .i64 x):=by
          rw[World.ownsRow.cellAt hrow t (by omega)]
          unfold ivs
          rw[List.getElem?_map,hxt]
          rfl
         have hbr2:b<wr.heap.size:=Nat.lt_of_lt_of_le hbr hg.size
         have hgc:=hrow.lt gc rfl
         have hgc2:=hgc.2
         obtain⟨k2,U,V,T,U',V',T',l2,r2⟩:=y
         unfold lnC at hcell
         simp only[Ln.f,Ln.t]at hcell hnb p1 p2 n1 n2
         have d0:=hcell 0 _ rfl
         have d1:=hcell 1 _ rfl
         have d2:=hcell 2 _ rfl
         have d3:=hcell 3 _ rfl
         have d4:=hcell 4 _ rfl
         have d5:=hcell 5 _ rfl
         have d6:=hcell 6 _ rfl
         have d7:=hcell 7 _ rfl
         have d8:=hcell 8 _ rfl
         rw[Nat.add_zero]at d0
         clear hcell
         obtain⟨W1,hW1⟩:∃ W1,wr.alloc (.cells #[.int .i64 k2,.string ⟨U.toArray⟩,.string ⟨V.toArray⟩,.string ⟨T.toArray⟩,.string ⟨U'.toArray⟩,.string ⟨V'.toArray⟩,.string ⟨T'.toArray⟩,.int .i64 l2,.int .i64 r2] 34)=W1:=⟨_,rfl⟩
         have BL1:Blk W1 wr.heap.size [.int .i64 k2,.string ⟨U.toArray⟩,.string ⟨V.toArray⟩,.string ⟨T.toArray⟩,.string ⟨U'.toArray⟩,.string ⟨V'.toArray⟩,.string ⟨T'.toArray⟩,.int .i64 l2,.int .i64 r2] 34:=by rw[← hW1];exact Blk.new wr _ _
         have hq01:Q wr W1:=by rw[← hW1];exact bt
         have hEq:=HMA.out.keep (Q.trans hQAr hq01)
         obtain⟨v1,hl1,ho1⟩:=zi1 hEq (U,V,T)
         obtain⟨v2,hl2,ho2⟩:=zi1 hEq (U',V',T')
         unfold spK at hl1 hl2
         simp only at hl1 hl2
         generalize getM (U,V,T) (zce L kk L.length)=a1 at *
         generalize getM (U',V',T') (zce L kk L.length)=a2 at *
         obtain⟨b1,cap1,rfl,-,-⟩:=ho1.form p1
         obtain⟨b2,cap2,rfl,-,-⟩:=ho2.form p2
         have HL1:=LH hl1
         have HL2:=LH hl2
         have HO1:=LH ho1
         have HO2:=LH ho2
         have HNB:=LH hnb
         have HXT:=LH hxt
         clear hl1 hl2 ho1 ho2 hnb hEq hxt
         have e1:=BL1.cell 1
         have e2:=BL1.cell 2
         have e3:=BL1.cell 3
         have e4:=BL1.cell 4
         have e5:=BL1.cell 5
         have e6:=BL1.cell 6
         simp only[zs4,zs5]at e1 e2 e3 e4 e5 e6
         go_wp2_with fail
         clear hW1 d0 d1 d2 d3 d4 d5 d6 d7 d8 r0
         refine zn 12 rfl (by kernel_rfl) rfl ?_
         refine svp 0 ?_
         refine svp 1 ?_
         refine svq 2 rfl (by intro w' hq;have hc0:=za hq e1;have hc1:=za hq e2;have hc2:=za hq e3;go_simp;try with_reducible rfl) ?_
         refine svq 3 rfl (by intro w' hq;have z:=HL1.out w' (Q.trans (Below.drew (Q.refl W1)) hq);go_simp;try with_reducible rfl) ?_
         refine svp 4 ?_
         refine svp 5 ?_
         refine svq 6 rfl (by intro w' hq;have hc0:=za hq e4;have hc1:=za hq e5;have hc2:=za hq e6;go_simp;try with_reducible rfl) ?_
         refine svq 7 rfl (by intro w' hq;have z:=HL2.out w' (Q.trans (Below.drew (Q.refl W1)) hq);go_simp;try with_reducible rfl) ?_
         refine svp 11 ?_
         clear e1 e2 e3 e4 e5 e6 HL1 HL2
         refine zaH (i:=8) (fun w'=>.slice (some ⟨w'.heap.size,0,none⟩) 2 2) (.cells #[.slice (some ⟨b1,0,none⟩) a1.length cap1,.slice (some ⟨b2,0,none⟩) a2.length cap2] 29) rfl rfl (by kernel_rfl) (by rfl) (fun w' hq=>by go_simp;try with_reducible rfl) (fun w2 hq2=>?_)
         simp only[Act.put,zs1,zs2,zs3]
         have B3:=Blk.new w2 [.slice (some ⟨b1,0,none⟩) a1.length cap1,.slice (some ⟨b2,0,none⟩) a2.length cap2] 29
         have hqm:Q W1 (w2.alloc (.cells #[.slice (some ⟨b1,0,none⟩) a1.length cap1,.slice (some ⟨b2,0,none⟩) a2.length cap2] 29)):=Q.trans (Below.drew (Q.refl W1)) (Q.trans hq2 bt)
         refine zaa (i:=9) rfl rfl (by kernel_rfl) (by rfl) (fun w' hq=>by go_simp;try with_reducible rfl) (fun w6 hq6=>(zm9 a1 a2 p1 p2 n1 n2 _ _ w.heap.size w.heap.size w2.heap.size 29 w6 (B3.keep hq6 B3.lt) (zi HO1.out (Q.trans hqm hq6)) (zi HO2.out (Q.trans hqm hq6))).mono ?_)
         intro e yy h
         obtain⟨vc,rfl,hq7,hrc⟩:=h
         have hws:=Q.trans hq01 (Q.trans hqm hq6)
         have hnl3:(a1++a2).length≤2000:=by rw[List.length_append];omega
         have hnl0:0<(a1++a2).length:=by rw[List.length_append];omega
         generalize a1++a2=nbl at *
         obtain⟨gR,cR,rfl,-,-⟩:=hrc.form hnl0
         have hgR:=(hrc.lt gR rfl).1
         refine⟨_,rfl,hq7,?_⟩
         simp only[Act.put,zs1,zs2,zs3]
         refine svp 10 ?_
         refine zh (by kernel_rfl) (fun w9 hq9=>?_)
         simp only[List.drop_succ_cons,List.drop_nil]
         have hq89:Q wr w9:=Q.trans hws (Q.trans hq7 hq9)
         have hg9:WB.grownBy w9 (some sn):=hg.trans (zas hq89 _)
         have BS9:=BQ.keep hq89 BQ.lt
         have hrow9:=zi hrow hq89
         have hrc9:=zcl (zi hrc hq9) (show WB.heap.size≤w6.heap.size from Nat.le_trans hg.size hws.size)
         have hneR:Value.ownBlock (.slice (some ⟨gc,0,none⟩) c.length cc)≠some gR:=fun e=>by
          have h1:=hws.size
          have h2:gc=gR:=by simpa[Value.ownBlock]using e
          omega
         clear hrc hrow BQ hg hws hqm hq2 hq6 hq7 hq9 hq89 B3 HO1 HO2 hgR BL1 hq01 hgc hgc2 hbr2
         go_wp2_with fail
         generalize wr=WC at *
         go_loopw [14,104] (fun ch j wr=>∃ (p:Nat) (s2:List Bool) (c2:List Nat),j=.int .i64 p∧p≤nbl.length∧Srch (zjL L kk) s n t s2 c2∧c2[t]? = some x∧(∀ m∈nbl.take p,s2[m]? = some true)∧WB.grownBy wr (some sn)∧Blk wr sn (bls s2) 4∧wr.ownsRow WB.heap.size 3 1 ch c2.length (ivs c2)∧ch.ownBlock≠some gR∧wr.ownsRow WB.heap.size 3 1 (.slice (some ⟨gR,0,none⟩) nbl.length cR) nbl.length (ivs nbl)) (fun _ j _=>nbl.length - (intOf j).toNat)
         case atStart=>exact⟨0,s',c,rfl,Nat.zero_le _,hS,HXT.out,fun m hm=>by simp at hm,hg9,BS9,hrow9,hneR,hrc9⟩
         case round =>
          obtain⟨p,s2,c2,rfl,hp,hS2,hx2,hseen,hg2,BS2,hrow2,hne2,hrR⟩:=hrel
          clear hg9 BS9 hrow9 hneR hrc9 hS HXT
          have HSE:=LH hseen
          clear hseen
          by_cases hpl:p<nbl.length
          ·obtain⟨m,hm⟩:∃ m,nbl[p]? = some m:=⟨_,List.getElem?_eq_getElem hpl⟩
           have hmb:m∈(zjL L kk).nb x:=by rw[HNB.out];exact List.mem_of_getElem? hm
           have hmn:m<L.length:=(zm2 L kk).lt x m hmb
           obtain⟨bb,hbb⟩:∃ bb,s2[m]? = some bb:=⟨_,List.getElem?_eq_getElem (by rw[hS2.len];exact hmn)⟩
           have hsl:sn<wr.heap.size:=BS2.lt
           have hgRl:=(hrR.lt gR rfl).2
           have r1:wr.cell? ⟨gR,p,none⟩=some (.int .i64 m):=by
            rw[World.ownsRow.cellAt hrR p (by omega)]
            unfold ivs
            rw[List.getElem?_map,hm]
            rfl
           have q1:wr.cell? ⟨sn,m,none⟩=some (.bool bb):=by rw[BS2.cell];exact zsi hbb
           have hbR:sn≠gR:=fun e=>BS2.not_row (by decide) hrR (by rw[e];rfl)
           have HTK:Hid (nbl.take (p+1)=nbl.take p++[m]):=LH (by rw[List.take_add_one,hm];rfl)
           have HBB:=LH hbb
           have HMB:=LH hmb
           clear hbb hmb hm
           have hc20:c2.length≤8:=Nat.le_trans hS2.le hn
           cases bb
           ·have hpos2:0<c2.length:=by
             have:=(List.getElem?_eq_some_iff.1 hx2).1
             omega
            obtain⟨gc2,cc2,rfl,-,-⟩:=hrow2.form hpos2
            have hbc:sn≠gc2:=fun e=>BS2.not_row (by decide) hrow2 (by rw[e];rfl)
            obtain⟨V1,hV1⟩:∃ V1,wr.setCell ⟨sn,m,none⟩ (.bool true)=V1:=⟨_,rfl⟩
            have BS3:Blk V1 sn (bls (s2.set m true)) 4:=by rw[← hV1,← zqR];exact BS2.set m _
            have f1:=BS2.frozen m
            have hvg:wr.grownBy V1 (some sn):=by rw[← hV1];exact grownBy_set (World.grownBy.refl _ _) m _
            have hrow3:V1.ownsRow WB.heap.size 3 1 (.slice (some ⟨gc2,0,none⟩) c2.length cc2) c2.length (ivs c2):=zbf hrow2 fun g e=>by cases e;exact hvg.block _ (hrow2.lt _ rfl).2 (fun e=>hbc (by injection e with e;exact e.symm))
            have hrR3:V1.ownsRow WB.heap.size 3 1 (.slice (some ⟨gR,0,none⟩) nbl.length cR) nbl.length (ivs nbl):=zbf hrR fun g e=>by cases e;exact hvg.block _ hgRl (fun e=>hbR (by injection e with e;exact e.symm))
            obtain⟨V2,hV2⟩:∃ V2,V1.alloc (.cells #[.int .i64 (m:Int)] 3)=V2:=⟨_,rfl⟩
            have hq12:Q V1 V2:=by rw[← hV2];exact bt
            have hrow4:=zi hrow3 hq12
            have hrR4:=zi hrR3 hq12
            have BS4:=BS3.keep hq12 BS3.lt
            have BN:Blk V2 V1.heap.size [.int .i64 (m:Int)] 3:=by rw[← hV2];exact Blk.new V1 _ _
            have hnc:∀ j u,([.int .i64 (m:Int)]:List Value)[j]? = some u→V2.cell? ((⟨V1.heap.size,0,none⟩:Addr).add j)=some u:=fun j u h=>by
             match j,h with
             | 0,h =>
              rw[List.getElem?_cons_zero]at h
              rw[← Option.some.inj h]
              exact BN.cell 0
             | j+1,h=>simp at h
            have hg3:WB.grownBy V2 (some sn):=hg2.trans (hvg.trans (zas hq12 _))
            have hbs:WB.heap.size≤V2.heap.size:=hg3.size
            have HS3:=LH (hS2.push (zm2 L kk) hx2 HMB.out (by rw[HBB.out];simp))
            have HX3:Hid ((c2++[m])[t]? = some x):=LH (by rw[List.getElem?_append_left (List.getElem?_eq_some_iff.1 hx2).1];exact hx2)
            clear hS2 hx2 hrow2 hrR hvg hrow3 hrR3 hq12 BS3 BN hg2
            go_wp2_with (at_builtin;refine wpList_append_own_at _ rfl (.tmp 116) (.tmp 118) 29 rfl WB.heap.size 3 i0 _ 1 8 Tryz.underlying29 hi hz0 hz1 hz2 rfl (by decide) _ _ _ rfl hrow4 ⟨V1.heap.size,0,none⟩ 1 1 [.int .i64 (m:Int)] rfl rfl hnc (by simp[Value.oneCell']) (by unfold maxLen;omega) (by omega) hbs ?_;intro v4 w4 hu4 hg4 _ hat4)
            go_roundw
            case rel =>
             refine⟨p+1,s2.set m true,c2++[m],by go_num,by omega,HS3.out,HX3.out,fun z hz=>?_,zhd hg3 hg4 (fun g e=>(hrow4.lt g e).1),?_,?_,?_,?_⟩
             ·rw[HTK.out,List.mem_append,List.mem_singleton]at hz
              by_cases e:m=z
              ·subst e
               rw[List.getElem?_set_self (List.getElem?_eq_some_iff.1 HBB.out).1]
              ·rw[List.getElem?_set_ne e]
               rcases hz with hz | hz
               ·exact HSE.out z hz
               ·exact absurd hz.symm e
             ·exact BS4.grown hg4 (fun e=>hbc (by cases e;rfl))
             ·rw[List.length_append,List.length_singleton,show ivs (c2++[m])=ivs c2++[.int .i64 (m:Int)]from by rw[zm7];rfl]
              exact hu4
             ·rcases hat4 with e | e
              ·rw[e];exact hne2
              ·rw[e]
               intro h
               have h1:V2.heap.size=gR:=by simpa using h
               have h2:=(hrR4.lt gR rfl).2
               omega
             ·exact zbf hrR4 fun g e=>by
               cases e
               exact hg4.block _ (hrR4.lt _ rfl).2 (fun h=>hne2 h.symm)
            case measure=>simp[intOf];omega
           ·go_wp2
            go_roundw
            case rel=>exact⟨p+1,s2,c2,by go_num,by omega,hS2,hx2,fun z hz=>by
             rw[HTK.out,List.mem_append,List.mem_singleton]at hz
             rcases hz with hz | hz
             ·exact HSE.out z hz
             ·rw[hz];exact HBB.out,hg2,BS2,hrow2,hne2,hrR⟩
            case measure=>simp[intOf];omega
          ·obtain rfl:p=nbl.length:=by omega
           have hseen:=HSE.out
           rw[List.take_length]at hseen
           have HN:=LH (hS2.next hx2 (fun m hm=>hseen m (by rw[← HNB.out];exact hm)))
           have htc2:t<c2.length:=(List.getElem?_eq_some_iff.1 hx2).1
           have hc20:c2.length≤L.length:=hS2.le
           clear hseen hS2 HSE hx2 hne2 hrR
           go_wp2
           go_roundw
           case rel=>exact⟨t+1,s2,c2,by go_num,by omega,HN.out,hg2,BS2,hrow2⟩
           case measure=>simp[intOf];omega
        ·obtain rfl:t=c.length:=by omega
         have hc0:0<c.length:=by
          have:=(List.getElem?_eq_some_iff.1 hS.hd).1
          omega
         have hc8:c.length≤1000:=by have:=hS.le;have:(zjL L kk).n=L.length:=rfl;omega
         obtain⟨gc,cc,rfl,-,-⟩:=hrow.form hc0
         have HSO:=LH (zpD c hc0 hc8 WB.heap.size _ wr hrow)
         have hswr:sn<wr.heap.size:=BQ.lt
         go_wp2_with fail
         refine HSO.out.mono ?_
         rintro e w7⟨rfl,hg7,xs,hasc,hperm,hrow7⟩
         clear HSO
         have hg8:WB.grownBy w7 (some sn):=zhd hg hg7 (fun g e=>(hrow.lt g e).1)
         have BS7:Blk w7 sn (bls s') 4:=BQ.grown hg7 (fun e=>BQ.not_row (by decide) hrow e)
         obtain⟨vs,o1,o2,o3⟩:=HO.out.marks BS hg8
         have hlx:xs.length=c.length:=hperm.length_eq
         have HCH:=LH (Chs.push (zm2 L kk) HC.out hS (Nat.le_refl _) (ztN hasc (hperm.nodup_iff.2 hS.nd)) hperm)
         obtain⟨V1,hV1⟩:∃ V1,w7.alloc (.cells #[.slice (some ⟨gc,0,none⟩) c.length cc] 29)=V1:=⟨_,rfl⟩
         have hq71:Q w7 V1:=by rw[← hV1];exact bt
         have BN:Blk V1 w7.heap.size [.slice (some ⟨gc,0,none⟩) c.length cc] 29:=by rw[← hV1];exact Blk.new w7 _ _
         have hnc:∀ j u,([.slice (some ⟨gc,0,none⟩) c.length cc]:List Value)[j]? = some u→V1.cell? ((⟨w7.heap.size,0,none⟩:Addr).add j)=some u:=fun j u h=>by
          match j,h with
          | 0,h =>
           rw[List.getElem?_cons_zero]at h
           rw[← Option.some.inj h]
           exact BN.cell 0
          | j+1,h=>simp at h
         have o2':=zi o2 hq71
         have hol:outs.length≤1000:=by have:=HC.out.count;omega
         have hbs:sn+1≤V1.heap.size:=by have:=hg8.size;have:=hq71.size;omega
         have hg81:WB.grownBy V1 (some sn):=hg8.trans (zas hq71 _)
         have HPU:=LH (fun(w9:World) (v9:Value) (hg9:V1.grownBy w9 u11.ownBlock) (h4:w9.ownsRow (sn+1) 29 1 v9 (outs.length+1) (vs++[.slice (some ⟨gc,0,none⟩) c.length cc]))=>Out.push (x:=xs) o1 o2' (fun j v y a b=>zi (o3 j v y a b) hq71) (by rw[hlx];exact zcl (zi hrow7 hq71) hsw) hg9 h4)
         go_wp2_with (at_builtin;refine wpList_append_own_at _ rfl (.tmp 123) (.tmp 125) 25 rfl (sn+1) 29 y0 _ 1 24 Tryz.underlying25 yi yz0 yz1 yz2 rfl (by decide) _ _ _ rfl o2' ⟨w7.heap.size,0,none⟩ 1 1 [.slice (some ⟨gc,0,none⟩) c.length cc] rfl rfl hnc (by simp[Value.oneCell']) (by unfold maxLen;omega) (by omega) hbs ?_;intro v9 w9 hu9 hg9 _ hat9)
         go_roundw
         case rel =>
          have hQV:Q WA V1:=Below.grown HQA.out hg81 HQA.out.size (fun g e=>by cases e;rw[HSN.out];exact Nat.le_refl _)
          have hlo:∀ g,u11.ownBlock=some g→sn+1≤g:=fun g e=>(o2'.lt g e).1
          have BS8:=BS7.keep hq71 BS7.lt
          have BS9:Blk w9 sn (bls s') 4:=BS8.grown hg9 (fun e=>by have:=hlo sn e.symm;omega)
          exact⟨n+1,s',outs++[xs],by omega,by go_num,Below.grown hQV hg9 hQV.size (fun g e=>by have:=hlo g e;have:=HSN.out;omega),BS9.lt,BS9,HPU.out w9 v9 hg9 hu9,HCH.out⟩
         case measure=>simp[intOf];omega
      ·go_wp2
       go_roundw
       case rel=>exact⟨n+1,s,outs,by omega,by go_num,Q.trans hQA hq01,hsw1,BS1,hO.keep hq01,hC.skip (fun _=>HBB.out)⟩
       case measure=>simp[intOf];omega
     ·have hkb:(kk == k)=false:=beq_eq_false_iff_ne.2 hk
      have hkn:(kk != k)=true:=by rw[bne,hkb];rfl
      go_wp2
      go_roundw
      case rel=>exact⟨n+1,s,outs,by omega,by go_num,Q.trans hQA hq01,hsw1,BS1,hO.keep hq01,hC.skip (fun h=>by
       obtain⟨x,h1,h2⟩:=(zho L k n).1 h
       rw[HX.out]at h1
       cases h1
       exact absurd h2 hk)⟩
      case measure=>simp[intOf];omega
    ·obtain rfl:n=L.length:=by omega
     go_wp2
     go_ret2
     exact⟨_,outs,s,rfl,Q.trans hQ hQA,by
      obtain⟨vs,h1,h2,h3⟩:=hO
      have hb:w.heap.size≤sn+1:=by have:=hQ.size;have:=HSN.out;omega
      exact⟨vs,h1,zcl h2 hb,fun j v x a b=>zcl (h3 j v x a b) hb⟩,hC⟩
end Go.Proofs.YtapnkgdnflofbaaGreatDoor
