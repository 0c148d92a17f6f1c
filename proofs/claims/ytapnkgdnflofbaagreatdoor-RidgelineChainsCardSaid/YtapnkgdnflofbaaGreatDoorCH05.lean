/-
  The mathematics of chains: a search along joined lines, and what the law asks of it.; A map from spots to slices, in memory.; A map from spots to rows of ints of the walk's own: an entry that grows.; Lines as a net: who is joined to whom.; slices.Sort at a row of integers that the call owns.
-/
import Derived.Test.YtapnkgdnflofbaaGreatDoorCHMA
import Derived.WideKeyRuns
import Derived.Maps.RangeRun
import Derived.RangeFuncBox
import Derived.Maps.AppendAt
import Derived.Test.YtapnkgdnflofbaaGreatDoorCHShelf
import Derived.Sort.OwnSortedInts
namespace Go.Proofs.YtapnkgdnflofbaaGreatDoor
section
structure Net where
 n:Nat
 K:Nat→Bool
 nb:Nat→List Nat
structure NetOk (G:Net):Prop where
 lt:∀ a b,b∈G.nb a→b<G.n
 own:∀ a b,b∈G.nb a→G.K b=true
 sym:∀ a b,G.K a=true→a<G.n→b∈G.nb a→a∈G.nb b
structure Srch (G:Net) (s0:List Bool) (root k:Nat) (s:List Bool) (ch:List Nat):Prop where
 len:s.length=G.n
 lt:∀ c∈ch,c<G.n
 own:∀ c∈ch,G.K c=true
 nd:ch.Nodup
 hd:ch[0]? = some root
 sn:∀ m,m<G.n→(s[m]? = some true ↔ (s0[m]? = some true∨m∈ch))
 new:∀ c∈ch,s0[c]?≠some true
 par:∀ p,0<p→∀ y,ch[p]? = some y→∃ q x,q<p∧ch[q]? = some x∧y∈G.nb x
 done:∀ q x,q<k→ch[q]? = some x→∀ m∈G.nb x,s[m]? = some true
theorem ziA{n:Nat}{l:List Nat}(hn:l.Nodup)(h:∀ c∈l,c<n):l.length≤n:=by
 have:l ⊆ List.range n:=fun c hc=>List.mem_range.2 (h c hc)
 have h2:=hn.length_le_of_subset this
 rwa[List.length_range]at h2
theorem Srch.start{G:Net}{s0:List Bool}{i:Nat}(hl:s0.length=G.n)(hi:i<G.n)(hk:G.K i=true)(h0:s0[i]?≠some true):Srch G s0 i 0 (s0.set i true) [i] where
 len:=by rw[List.length_set];exact hl
 lt:=fun c hc=>by rw[List.mem_singleton]at hc;omega
 own:=fun c hc=>by rw[List.mem_singleton]at hc;rw[hc];exact hk
 nd:=by simp
 hd:=rfl
 sn:=fun m hm=>by
  by_cases e:i=m
  ·subst e
   rw[List.getElem?_set_self (by omega)]
   simp
  ·rw[List.getElem?_set_ne e,List.mem_singleton]
   constructor
   ·exact .inl
   ·rintro(h | h)
    ·exact h
    ·exact absurd h.symm e
 new:=fun c hc=>by rw[List.mem_singleton]at hc;rw[hc];exact h0
 par:=fun p hp y hy=>by
  rw[List.getElem?_eq_none (by simp;omega)]at hy
  cases hy
 done:=fun q _ hq=>by omega
theorem Srch.push{G:Net}(ok:NetOk G){s0 s:List Bool}{root k x m:Nat}{ch:List Nat}(h:Srch G s0 root k s ch)(hx:ch[k]? = some x)(hm:m∈G.nb x)(hs:s[m]?≠some true):Srch G s0 root k (s.set m true) (ch++[m]):=by
 have hlt:=ok.lt _ _ hm
 have hnew:s0[m]?≠some true∧m ∉ ch:=by
  have:=h.sn m hlt
  constructor
  ·intro e;exact hs (this.2 (.inl e))
  ·intro e;exact hs (this.2 (.inr e))
 have hkl:k<ch.length:=(List.getElem?_eq_some_iff.1 hx).1
 refine⟨by rw[List.length_set];exact h.len,?_,?_,?_,?_,?_,?_,?_,?_⟩
 ·intro c hc
  rcases List.mem_append.1 hc with hc | hc
  ·exact h.lt c hc
  ·rw[List.mem_singleton]at hc;omega
 ·intro c hc
  rcases List.mem_append.1 hc with hc | hc
  ·exact h.own c hc
  ·rw[List.mem_singleton]at hc;rw[hc];exact ok.own _ _ hm
 ·rw[List.nodup_append]
  refine⟨h.nd,by simp,fun a ha b hb e=>?_⟩
  rw[List.mem_singleton]at hb
  subst hb;subst e
  exact hnew.2 ha
 ·rw[List.getElem?_append_left (by omega)];exact h.hd
 ·intro j hj
  by_cases e:m=j
  ·subst e
   rw[List.getElem?_set_self (by rw[h.len];omega)]
   simp
  ·rw[List.getElem?_set_ne e,h.sn j hj,List.mem_append,List.mem_singleton]
   constructor
   ·rintro(a | a)
    ·exact .inl a
    ·exact .inr (.inl a)
   ·rintro(a | a | a)
    ·exact .inl a
    ·exact .inr a
    ·exact absurd a.symm e
 ·intro c hc
  rcases List.mem_append.1 hc with hc | hc
  ·exact h.new c hc
  ·rw[List.mem_singleton]at hc;rw[hc];exact hnew.1
 ·intro p hp y hy
  by_cases hpl:p<ch.length
  ·rw[List.getElem?_append_left hpl]at hy
   obtain⟨q,z,hq,hz,hb⟩:=h.par p hp y hy
   exact⟨q,z,hq,by rw[List.getElem?_append_left (by omega)];exact hz,hb⟩
  ·have hy2:=(List.getElem?_eq_some_iff.1 hy).1
   rw[List.length_append,List.length_singleton]at hy2
   obtain rfl:p=ch.length:=by omega
   rw[List.getElem?_append_right (Nat.le_refl _),Nat.sub_self]at hy
   cases hy
   exact⟨k,x,hkl,by rw[List.getElem?_append_left hkl];exact hx,hm⟩
 ·intro q z hq hz j hj
  rw[List.getElem?_append_left (by omega)]at hz
  have:=h.done q z hq hz j hj
  by_cases e:m=j
  ·subst e;exact absurd this hs
  ·rw[List.getElem?_set_ne e];exact this
theorem Srch.next{G:Net}{s0 s:List Bool}{root k x:Nat}{ch:List Nat}(h:Srch G s0 root k s ch)(hx:ch[k]? = some x)(ha:∀ m∈G.nb x,s[m]? = some true):Srch G s0 root (k+1) s ch :=
 { h with
  done:=fun q z hq hz=>by
   by_cases e:q=k
   ·subst e;rw[hx]at hz;cases hz;exact ha
   ·exact h.done q z (by omega) hz }
theorem Srch.le{G:Net}{s0 s:List Bool}{root k:Nat}{ch:List Nat}(h:Srch G s0 root k s ch):ch.length≤G.n:=ziA h.nd h.lt
structure ChOk (G:Net) (x:List Nat):Prop where
 asc:x.Pairwise (·<·)
 lt:∀ c∈x,c<G.n
 own:∀ c∈x,G.K c=true
 shut:∀ c∈x,∀ m∈G.nb c,m∈x
 ord:∃ y:List Nat,y.length=x.length∧(∀ c,c∈y ↔ c∈x)∧y[0]? = x[0]?∧y≠[]∧∀ p,0<p→∀ b,y[p]? = some b→∃ q a,q<p∧y[q]? = some a∧b∈G.nb a
structure Chs (G:Net) (i:Nat) (s:List Bool) (out:List (List Nat)):Prop where
 len:s.length=G.n
 each:∀ x∈out,ChOk G x
 sn:∀ m,m<G.n→(s[m]? = some true ↔ ∃ x∈out,m∈x)
 all:∀ m,m<i→m<G.n→G.K m=true→s[m]? = some true
 apart:out.Pairwise fun x y=>∀ m,m∈x→m ∉ y
 heads:out.Pairwise fun x y=>∀ a b,x[0]? = some a→y[0]? = some b→a<b
 head:∀ x∈out,∀ a,x[0]? = some a→a<i
theorem Chs.start(G:Net):Chs G 0 (List.replicate G.n false) [] where
 len:=by simp
 each:=fun x h=>by cases h
 sn:=fun m hm=>by
  rw[List.getElem?_replicate,if_pos hm]
  simp
 all:=fun m h=>by omega
 apart:=.nil
 heads:=.nil
 head:=fun x h=>by cases h
theorem Chs.skip{G:Net}{i:Nat}{s:List Bool}{out:List (List Nat)}(h:Chs G i s out)(hi:G.K i=true→s[i]? = some true):Chs G (i+1) s out :=
 { h with
  all:=fun m hm hn hk=>by
   by_cases e:m=i
   ·subst e;exact hi hk
   ·exact h.all m (by omega) hn hk
  head:=fun x hx a ha=>by have:=h.head x hx a ha;omega }
theorem Chs.push{G:Net}(ok:NetOk G){i k:Nat}{s0 s:List Bool}{out:List (List Nat)}{ch x:List Nat}(h:Chs G i s0 out)(hs:Srch G s0 i k s ch)(hk:ch.length≤k)(hx:x.Pairwise (·<·))(hp:x.Perm ch):Chs G (i+1) s (out++[x]):=by
 have hmem:∀ c,c∈x ↔ c∈ch:=fun c=>hp.mem_iff
 have hin:i∈ch:=List.mem_of_getElem? hs.hd
 have hmin:∀ c∈ch,i≤c:=fun c hc=>by
  by_cases e:i≤c
  ·exact e
  ·exact absurd (h.all c (by omega) (hs.lt c hc) (hs.own c hc)) (hs.new c hc)
 have hhd:x[0]? = some i:=by
  cases hx':x with
  | nil=>rw[hx']at hmem;exact absurd ((hmem i).2 hin) (by simp)
  | cons a r =>
   rw[hx']at hx hmem
   have h1:=hmin a ((hmem a).1 (by simp))
   have h2:a≤i:=by
    rcases List.mem_cons.1 ((hmem i).2 hin)with e | e
    ·omega
    ·exact Nat.le_of_lt ((List.pairwise_cons.1 hx).1 i e)
   have:a=i:=by omega
   rw[this];rfl
 have hshut:∀ c∈ch,∀ m∈G.nb c,m∈ch:=fun c hc m hm=>by
  have hmn:=ok.lt _ _ hm
  obtain⟨q,hq,e⟩:=List.getElem_of_mem hc
  have h1:=hs.done q c (by omega) (by rw[List.getElem?_eq_getElem hq,e]) m hm
  rcases(hs.sn m hmn).1 h1 with h2 | h2
  ·obtain⟨y,hy,hmy⟩:=(h.sn m hmn).1 h2
   have h3:=(h.each y hy).shut m hmy c (ok.sym c m (hs.own c hc) (hs.lt c hc) hm)
   exact absurd ((h.sn c (hs.lt c hc)).2 ⟨y,hy,h3⟩) (hs.new c hc)
  ·exact h2
 have hok:ChOk G x:=⟨hx,fun c hc=>hs.lt c ((hmem c).1 hc),fun c hc=>hs.own c ((hmem c).1 hc),fun c hc m hm=>(hmem m).2 (hshut c ((hmem c).1 hc) m hm),
  ch,hp.length_eq.symm,fun c=>(hmem c).symm,by rw[hhd];exact hs.hd,(fun e=>by rw[e]at hin;cases hin),hs.par⟩
 refine⟨hs.len,?_,?_,?_,?_,?_,?_⟩
 ·intro y hy
  rcases List.mem_append.1 hy with hy | hy
  ·exact h.each y hy
  ·rw[List.mem_singleton]at hy;rw[hy];exact hok
 ·intro m hm
  rw[hs.sn m hm,h.sn m hm]
  constructor
  ·rintro(⟨y,h1,h2⟩ | h1)
   ·exact⟨y,List.mem_append_left _ h1,h2⟩
   ·exact⟨x,by simp,(hmem m).2 h1⟩
  ·rintro⟨y,h1,h2⟩
   rcases List.mem_append.1 h1 with h1 | h1
   ·exact .inl ⟨y,h1,h2⟩
   ·rw[List.mem_singleton]at h1;rw[h1]at h2;exact .inr ((hmem m).1 h2)
 ·intro m hm hn hK
  by_cases e:m=i
  ·subst e
   exact(hs.sn m hn).2 (.inr hin)
  ·exact(hs.sn m hn).2 (.inl (h.all m (by omega) hn hK))
 ·rw[List.pairwise_append]
  refine⟨h.apart,List.pairwise_singleton _ _,fun y hy z hz m hm=>?_⟩
  rw[List.mem_singleton]at hz
  subst hz
  intro hmz
  have h1:=(hmem m).1 hmz
  exact hs.new m h1 ((h.sn m (hs.lt m h1)).2 ⟨y,hy,hm⟩)
 ·rw[List.pairwise_append]
  refine⟨h.heads,List.pairwise_singleton _ _,fun y hy z hz a b ha hb=>?_⟩
  rw[List.mem_singleton]at hz
  subst hz
  rw[hhd]at hb
  cases hb
  exact h.head y hy a ha
 ·intro y hy a ha
  rcases List.mem_append.1 hy with hy | hy
  ·have:=h.head y hy a ha;omega
  ·rw[List.mem_singleton]at hy
   subst hy
   rw[hhd]at ha
   cases ha
   omega
theorem Chs.count{G:Net}{i:Nat}{s:List Bool}{out:List (List Nat)}(h:Chs G i s out):out.length≤i:=by
 have hne:∀ x∈out,x[0]? = some (x.headD 0):=fun x hx=>by
  obtain⟨y,h1,-,-,h4,-⟩:=(h.each x hx).ord
  cases x with
  | nil=>exact absurd (List.eq_nil_of_length_eq_zero h1) h4
  | cons a r=>rfl
 have h1:(out.map (·.headD 0)).Nodup:=by
  rw[List.Nodup,List.pairwise_map]
  exact h.heads.imp_of_mem fun ha hb hab=>Nat.ne_of_lt (hab _ _ (hne _ ha) (hne _ hb))
 have h2:=ziA h1 (n:=i) (fun c hc=>by
  obtain⟨x,hx,rfl⟩:=List.mem_map.1 hc
  exact h.head x hx _ (hne x hx))
 rwa[List.length_map]at h2
structure Rea (J:Nat→Nat→Bool) (x y:List Nat) (t j:Nat) (r:List Nat):Prop where
 nd:r.Nodup
 sub:∀ c∈r,c∈x
 got:∀ p c,p≤t→y[p]? = some c→c∈r
 now:∀ i c,i<j→x[i]? = some c→(∃ q a,q≤t∧y[q]? = some a∧J c a=true)→c∈r
theorem Rea.start{J:Nat→Nat→Bool}{x y:List Nat}{a:Nat}(hx:x[0]? = some a)(hy:y[0]? = some a):Rea J x y 0 0 [a] where
 nd:=by simp
 sub:=fun c hc=>by rw[List.mem_singleton]at hc;rw[hc];exact List.mem_of_getElem? hx
 got:=fun p c hp hc=>by
  obtain rfl:p=0:=by omega
  rw[hy]at hc
  cases hc
  simp
 now:=fun i _ hi=>by omega
theorem Rea.add{J:Nat→Nat→Bool}{x y r:List Nat}{t j c:Nat}(h:Rea J x y t j r)(hc:x[j]? = some c)(hn:c ∉ r):Rea J x y t (j+1) (r++[c]) where
 nd:=by
  rw[List.nodup_append]
  refine⟨h.nd,by simp,fun a ha b hb e=>?_⟩
  rw[List.mem_singleton]at hb
  subst hb;subst e
  exact hn ha
 sub:=fun a ha=>by
  rcases List.mem_append.1 ha with ha | ha
  ·exact h.sub a ha
  ·rw[List.mem_singleton]at ha;rw[ha];exact List.mem_of_getElem? hc
 got:=fun p a hp ha=>List.mem_append_left _ (h.got p a hp ha)
 now:=fun i a hi ha hJ=>by
  by_cases e:i=j
  ·subst e;rw[hc]at ha;cases ha;simp
  ·exact List.mem_append_left _ (h.now i a (by omega) ha hJ)
theorem Rea.pass{J:Nat→Nat→Bool}{x y r:List Nat}{t j c:Nat}(h:Rea J x y t j r)(hc:x[j]? = some c)(hn:c∈r∨∀ a∈r,J c a=false):Rea J x y t (j+1) r :=
 { h with
  now:=fun i a hi ha hJ=>by
   by_cases e:i=j
   ·subst e
    rw[hc]at ha
    cases ha
    rcases hn with hn | hn
    ·exact hn
    ·obtain⟨q,b,hq,hb,hj⟩:=hJ
     rw[hn b (h.got q b hq hb)]at hj
     cases hj
   ·exact h.now i a (by omega) ha hJ }
theorem Rea.round{J:Nat→Nat→Bool}{x y r:List Nat}{t j:Nat}(h:Rea J x y t j r)(hj:x.length≤j)(hyx:∀ c∈y,c∈x)(hpar:∀ p,0<p→∀ b,y[p]? = some b→∃ q a,q<p∧y[q]? = some a∧J b a=true):Rea J x y (t+1) 0 r where
 nd:=h.nd
 sub:=h.sub
 got:=fun p c hp hc=>by
  by_cases e:p≤t
  ·exact h.got p c e hc
  ·obtain rfl:p=t+1:=by omega
   obtain⟨q,a,hq,ha,hJ⟩:=hpar (t+1) (by omega) c hc
   obtain⟨i,hi,e2⟩:=List.getElem_of_mem (hyx c (List.mem_of_getElem? hc))
   exact h.now i c (by omega) (by rw[List.getElem?_eq_getElem hi,e2]) ⟨q,a,by omega,ha,hJ⟩
 now:=fun i _ hi=>by omega
theorem Rea.full{J:Nat→Nat→Bool}{x y r:List Nat}{t j:Nat}(h:Rea J x y t j r)(ht:y.length≤t+1)(hl:y.length=x.length)(hnd:x.Nodup)(hyx:∀ c,c∈y ↔ c∈x):r.length=x.length:=by
 have h1:r.length≤x.length:=h.nd.length_le_of_subset h.sub
 have h2:x.length≤r.length:=hnd.length_le_of_subset fun c hc=>by
  obtain⟨i,hi,e⟩:=List.getElem_of_mem ((hyx c).2 hc)
  exact h.got i c (by omega) (by rw[List.getElem?_eq_getElem hi,e])
 omega
end
section
open Kp
abbrev S3:=Str × Str × Str
def spK(s:S3):Value:=.agg #[.string ⟨s.1.toArray⟩,.string ⟨s.2.1.toArray⟩,.string ⟨s.2.2.toArray⟩]
def mpE:List (S3 × Value)→Nat→List MapEntry
 | [],_=>[]
 | p::r,k=>⟨spK p.1,p.2,k⟩::mpE r (k+1)
def znC(s:S3):List (S3 × Value)→Nat→Option (Nat × Value)
 | [],_=>none
 | p::r,i=>if p.1=s then some (i,p.2)else znC s r (i+1)
structure SMap (P:Program) (mt kt et:TypeId):Prop where
 und:P.underlying mt=some (.map kt et)
 wide:(match P.underlying kt with | some (.array _ _) | some (.struct _)=>true | _=>false)=true
 chk:∀ b s w,(Instr.checkKey b 10000 kt (spK s)).run P w=.ok () w
 eq:∀ s t w,(Op.equal kt (spK s) (spK t)).run P w=.ok (decide (s=t)) w
 zero:∀ w,(zeroValue et).run P w=.ok (.slice none 0 0) w
theorem zm4(L:List (S3 × Value))(k:Nat):(mpE L k).length=L.length:=by
 induction L generalizing k with
 | nil=>rfl
 | cons p r ih=>simp[mpE,ih]
theorem zoX(L M:List (S3 × Value))(k:Nat):mpE (L++M) k=mpE L k++mpE M (k+L.length):=by
 induction L generalizing k with
 | nil=>rfl
 | cons p r ih =>
  simp only[List.cons_append,mpE,ih,List.length_cons]
  rw[show k+1+r.length=k+(r.length+1) by omega]
theorem ziF(L:List (S3 × Value))(k i:Nat):(mpE L k)[i]? = (L[i]?).map fun p=>⟨spK p.1,p.2,k+i⟩:=by
 induction L generalizing k i with
 | nil=>simp[mpE]
 | cons p r ih =>
  cases i with
  | zero=>simp[mpE]
  | succ i =>
   simp only[mpE,List.getElem?_cons_succ,ih]
   rw[show k+1+i=k+(i+1) by omega]
theorem zpL{s:S3}{L:List (S3 × Value)}{k i:Nat}{v:Value}(h:znC s L k=some (i,v)):k≤i∧L[i - k]? = some (s,v):=by
 induction L generalizing k with
 | nil=>cases h
 | cons p r ih =>
  unfold znC at h
  split at h
  ·rename_i e
   cases h
   subst e
   simp
  ·obtain⟨h1,h2⟩:=ih h
   refine⟨by omega,?_⟩
   rw[show i - k=(i - (k+1))+1 by omega]
   exact h2
variable {P:Program} {mt kt et:TypeId}
theorem zo9(h:SMap P mt kt et)(s:S3)(w:World)(L:List (S3 × Value))(k i:Nat):(Instr.findAsking kt (spK s) (mpE L k) i).run P w=.ok (znC s L i) w:=by
 induction L generalizing k i with
 | nil=>rfl
 | cons p r ih =>
  unfold mpE Instr.findAsking znC
  simp only[Sem.run_bind,h.eq,Result.andThen_ok]
  by_cases e:s=p.1
  ·subst e
   simp
  ·rw[decide_eq_false e,if_neg (show ¬ p.1=s from fun h=>e h.symm)]
   exact ih _ _
theorem ziK(h:SMap P mt kt et)(s:S3)(w:World)(L:List (S3 × Value)):(Instr.findKey kt (spK s) (mpE L 0)).run P w=.ok (znC s L 0) w:=by
 rw[run_findKey_eq w h.wide]
 exact zo9 h s w L 0 0
def zms(w:World)(r:Nat)(L:List (S3 × Value)):Prop:=w.heap[r]? = some (.map (mpE L 0).toArray L.length)
theorem zgL{r c:Nat}{es:Array MapEntry}{w:World}(h:w.heap[r]? = some (.map es c))(o:Obj):(setObj r o).run P w=.ok () (w.putObj r o):=by
 simp[setObj,Sem.run,h,World.putObj]
theorem zqF(h:SMap P mt kt et){r:Nat}{L:List (S3 × Value)}{w:World}(hM:zms w r L){s:S3}(hs:znC s L 0=none) :
  (Instr.mapEntry mt (.map (some r)) (spK s)).run P w=.ok (.tuple #[.slice none 0 0,.int .i64 L.length]) (w.putObj r (.map (mpE (L++[(s,.slice none 0 0)]) 0).toArray (L++[(s,Value.slice none 0 0)]).length)):=by
 have hM':w.heap[r]? = some (.map (mpE L 0).toArray L.length):=hM
 have hk:=ziK h s w L
 rw[hs]at hk
 simp only[Instr.mapEntry,getObj,Sem.run_bind,run_underlying h.und,Result.andThen_ok,Sem.run,hM',h.chk,hk,h.zero,zgL hM']
 rw[zoX]
 simp[mpE,goInt]
theorem zqE(h:SMap P mt kt et){r:Nat}{L:List (S3 × Value)}{w:World}(hM:zms w r L){s:S3}{i:Nat}{v:Value}(hs:znC s L 0=some (i,v)) :
  (Instr.mapEntry mt (.map (some r)) (spK s)).run P w=.ok (.tuple #[v,.int .i64 i]) (w.putObj r (.map (mpE L 0).toArray L.length)):=by
 have hM':w.heap[r]? = some (.map (mpE L 0).toArray L.length):=hM
 have hk:=ziK h s w L
 rw[hs]at hk
 obtain⟨-,hi⟩:=zpL hs
 rw[Nat.sub_zero]at hi
 have hg:=ziF L 0 i
 rw[hi,Nat.zero_add]at hg
 have hb:Instr.sameBits 10000 (spK s) (spK s)=true:=by
  unfold spK
  simp[Instr.sameBits]
  have hr:∀ l:Array UInt8,((⟨l⟩:ByteArray) == ⟨l⟩)=true:=fun l=>by
   show (l == l)=true
   exact beq_self_eq_true l
  exact⟨hr _,hr _,hr _⟩
 have hm:(mpE L 0).toArray.modify i (fun e=>{ e with key:=spK s })=(mpE L 0).toArray:=by
  apply Array.ext_getElem?
  intro j
  rw[Array.getElem?_modify]
  split
  ·rename_i e
   subst e
   rw[List.getElem?_toArray,hg]
   rfl
  ·rfl
 simp only[Instr.mapEntry,getObj,Sem.run_bind,run_underlying h.und,Result.andThen_ok,Sem.run,hM',h.chk,hk]
 simp only[List.getElem?_toArray,hg,Option.map_some,Option.getD_some,Instr.keyThatStays,hb,if_true,Sem.run_pure,Result.andThen_ok,hm,zgL hM']
 rfl
theorem zjP(h:SMap P mt kt et){r:Nat}{L:List (S3 × Value)}{w:World}(hM:zms w r L)(s:S3) :
  (Instr.lookup mt (.map (some r)) (spK s) false).run P w=.ok (match znC s L 0 with | some (_,v)=>v | none=>.slice none 0 0) w:=by
 have hM':w.heap[r]? = some (.map (mpE L 0).toArray L.length):=hM
 have hk:=ziK h s w L
 cases hs:znC s L 0 with
 | none =>
  rw[hs]at hk
  simp only[Instr.lookup,getObj,Sem.run_bind,run_underlying h.und,Result.andThen_ok,Sem.run_pure,Sem.run,hM',h.chk,hk,h.zero]
  rfl
 | some p =>
  rw[hs]at hk
  simp only[Instr.lookup,getObj,Sem.run_bind,run_underlying h.und,Result.andThen_ok,Sem.run_pure,Sem.run,hM',h.chk,hk]
  rfl
def zq1(L:List (S3 × Value))(i:Nat)(u:Value):List (S3 × Value):=L.modify i fun p=>(p.1,u)
theorem zsF(L:List (S3 × Value))(i:Nat)(u:Value):(mpE L 0).toArray.modify i (fun e=>{ e with val:=u })=(mpE (zq1 L i u) 0).toArray:=by
 apply Array.ext_getElem?
 intro j
 rw[Array.getElem?_modify,List.getElem?_toArray,List.getElem?_toArray,ziF,ziF]
 unfold zq1
 rw[List.getElem?_modify]
 split
 ·rename_i e
  subst e
  cases L[i]? <;> rfl
 ·rename_i e
  cases L[j]? <;> rfl
theorem zh8{r:Nat}{L:List (S3 × Value)}{w:World}(hM:zms w r L){i:Nat}(hi:i<L.length)(u:Value) :
  (Instr.entryStore mt (.map (some r)) (.int .i64 i) u).run P w=.ok () (w.putObj r (.map (mpE (zq1 L i u) 0).toArray (zq1 L i u).length)):=by
 have hM':w.heap[r]? = some (.map (mpE L 0).toArray L.length):=hM
 have hf:(mpE L 0).toArray.findIdx? (fun e=>(e.born:Int) == (i:Int))=some i:=by
  rw[List.findIdx?_toArray,List.findIdx?_eq_some_iff_getElem]
  refine⟨by rw[zm4];exact hi,?_,fun j hj=>?_⟩
  ·have:=ziF L 0 i
   rw[List.getElem?_eq_getElem (by rw[zm4];exact hi),List.getElem?_eq_getElem hi]at this
   have e:=Option.some.inj this
   rw[e]
   simp
  ·have:=ziF L 0 j
   rw[List.getElem?_eq_getElem (by rw[zm4];omega),List.getElem?_eq_getElem (by omega)]at this
   have e:=Option.some.inj this
   rw[e]
   simp
   omega
 have ha:(asInt (.int .i64 (i:Int))).run P w=.ok (i:Int) w:=rfl
 have hl:(zq1 L i u).length=L.length:=by unfold zq1;simp
 simp only[Instr.entryStore,getObj,Sem.run_bind,Result.andThen_ok,Sem.run,hM',ha,hf,zgL hM',zsF,hl]
def ivs(l:List Nat):List Value:=l.map fun(i:Nat)=>(.int .i64 (i:Int):Value)
theorem zqg(l:List Nat):(ivs l).length=l.length:=by unfold ivs;simp
def getM(s:S3):List (S3 × List Nat)→List Nat
 | []=>[]
 | p::r=>if p.1=s then p.2 else getM s r
def zjD(s:S3)(i:Nat):List (S3 × List Nat)→List (S3 × List Nat)
 | []=>[(s,[i])]
 | p::r=>if p.1=s then(s,p.2++[i])::r else p::zjD s i r
theorem zkY(s t:S3)(i:Nat)(M:List (S3 × List Nat)):getM t (zjD s i M)=if t=s then getM s M++[i]else getM t M:=by
 induction M with
 | nil =>
  unfold zjD getM getM
  by_cases h:s=t
  ·rw[if_pos h,if_pos h.symm];rfl
  ·rw[if_neg h,if_neg (fun e=>h e.symm)]
 | cons p r ih =>
  unfold zjD
  by_cases h:p.1=s
  ·rw[if_pos h]
   unfold getM
   by_cases h2:s=t
   ·rw[if_pos h2,if_pos h2.symm,if_pos h]
   ·rw[if_neg h2,if_neg (fun e=>h2 e.symm),if_neg (fun e=>h2 (h.symm.trans e))]
  ·rw[if_neg h]
   unfold getM
   rw[ih]
   by_cases h2:p.1=t
   ·rw[if_pos h2,if_pos h2,if_neg (fun e=>h (h2.trans e))]
   ·rw[if_neg h2,if_neg h2,if_neg h]
theorem upd_ne(s:S3)(i:Nat)(M:List (S3 × List Nat))(h:∀ m∈M,m.2≠[]):∀ m∈zjD s i M,m.2≠[]:=by
 induction M with
 | nil =>
  intro m hm
  rw[zjD,List.mem_singleton]at hm
  subst hm
  simp
 | cons p r ih =>
  intro m hm
  unfold zjD at hm
  split at hm
  ·rcases List.mem_cons.1 hm with rfl | hm
   ·simp
   ·exact h m (List.mem_cons_of_mem _ hm)
  ·rcases List.mem_cons.1 hm with rfl | hm
   ·exact h _ (List.mem_cons_self ..)
   ·exact ih (fun m hm=>h m (List.mem_cons_of_mem _ hm)) m hm
def zjz(M:List (S3 × List Nat))(vs:List Value):List (S3 × Value):=List.zipWith (fun m v=>(m.1,v)) M vs
theorem zq4{M:List (S3 × List Nat)}{vs:List Value}(h:vs.length=M.length):(zjz M vs).length=M.length:=by unfold zjz;rw[List.length_zipWith];omega
theorem zic(s:S3)(i:Nat):∀ (M:List (S3 × List Nat)) (vs:List Value) (k:Nat),vs.length=M.length →
  (znC s (zjz M vs) k=none∧getM s M=[]∧zjD s i M=M++[(s,[i])]) ∨
  ∃ j v l,znC s (zjz M vs) k=some (k+j,v)∧vs[j]? = some v∧M[j]? = some (s,l)∧getM s M=l∧zjD s i M=M.set j (s,l++[i])
 | [],vs,k,_=>.inl ⟨by unfold zjz;simp[znC],rfl,rfl⟩
 | p::r,[],k,h=>by cases h
 | p::r,v::vs,k,h=>by
  have e:zjz (p::r) (v::vs)=(p.1,v)::zjz r vs:=rfl
  rw[e]
  unfold znC getM zjD
  by_cases hp:p.1=s
  ·subst hp
   rw[if_pos rfl,if_pos rfl,if_pos rfl]
   exact .inr ⟨0,v,p.2,rfl,rfl,rfl,rfl,rfl⟩
  ·rw[if_neg hp,if_neg hp,if_neg hp]
   rcases zic s i r vs (k+1) (by simpa using h)with⟨h1,h2,h3⟩|⟨j,v',l,h1,h2,h3,h4,h5⟩
   ·exact .inl ⟨h1,h2,by rw[h3];rfl⟩
   ·exact .inr ⟨j+1,v',l,by rw[h1];congr 2;omega,by simpa using h2,by simpa using h3,h4,by rw[h5];rfl⟩
structure EndsV (w:World) (B:Nat) (ti:TypeId) (M:List (S3 × List Nat)) (vs:List Value):Prop where
 len:vs.length=M.length
 own:∀ (j:Nat) v m,vs[j]? = some v→M[j]? = some m→w.ownsRow B ti 1 v m.2.length (ivs m.2)
 apart:∀ (j k:Nat) a b,j≠k→vs[j]? = some a→vs[k]? = some b→a.ownBlock≠b.ownBlock
 full:∀ m∈M,m.2≠[]
def zda(w:World)(B r:Nat)(ti:TypeId)(M:List (S3 × List Nat)):Prop:=∃ vs,EndsV w B ti M vs∧zms w r (zjz M vs)
theorem zbf{w w':World}{B:Nat}{t:TypeId}{k n:Nat}{v:Value}{xs:List Value}(h:w.ownsRow B t k v n xs)(hk:∀ g,v.ownBlock=some g→w'.heap[g]? = w.heap[g]?):w'.ownsRow B t k v n xs:=by
 refine⟨h.1,?_⟩
 rcases h.2 with h2 | ⟨g,cap,cur,rfl,hg,hc,r⟩
 ·exact .inl h2
 ·exact .inr ⟨g,cap,cur,rfl,hg,(hk g rfl).trans hc,r⟩
theorem zaN{w:World}{B:Nat}{t:TypeId}{k n:Nat}{v:Value}{xs:List Value}(h:w.ownsRow B t k v n xs){g:Nat}(hg:v.ownBlock=some g):g<w.heap.size∧∃ cur,w.heap[g]? = some (.cells cur t (0,0)):=by
 rcases h.2 with⟨rfl,-⟩|⟨g',cap,cur,rfl,-,hc,-⟩
 ·cases hg
 ·cases hg
  exact⟨(Array.getElem?_eq_some_iff.1 hc).1,cur,hc⟩
theorem zdg{w:World}{B:Nat}{t:TypeId}{k n:Nat}{v:Value}{xs:List Value}(h:w.ownsRow B t k v n xs)(hn:n≠0):∃ g,v.ownBlock=some g:=by
 rcases h.2 with⟨-,h0⟩|⟨g,cap,cur,rfl,-⟩
 ·exact absurd h0 hn
 ·exact⟨g,rfl⟩
theorem zms.not_cells{w:World}{r:Nat}{L:List (S3 × Value)}(h:zms w r L){g:Nat}{cur:Array Value}{t:TypeId}{f:Nat × Nat}(hc:w.heap[g]? = some (.cells cur t f)):g≠r:=by
 rintro rfl
 unfold zms at h
 rw[h]at hc
 cases hc
theorem zmt(M:List (S3 × List Nat))(vs:List Value)(h:vs.length=M.length)(m:S3 × List Nat)(v:Value):zjz (M++[m]) (vs++[v])=zjz M vs++[(m.1,v)]:=by
 unfold zjz
 rw[List.zipWith_append (by omega)]
 rfl
theorem zns(M:List (S3 × List Nat))(vs:List Value)(j:Nat):(zjz M vs)[j]? = match M[j]?,vs[j]? with | some m,some v=>some (m.1,v) | _,_=>none:=by
 unfold zjz
 rw[List.getElem?_zipWith]
 cases M[j]? <;> cases vs[j]? <;> rfl
theorem zrg{M:List (S3 × List Nat)}{vs:List Value}(h:vs.length=M.length){j:Nat}{m:S3 × List Nat}(hm:M[j]? = some m)(l:List Nat)(u:Value):zq1 (zjz M vs) j u=zjz (M.set j (m.1,l)) (vs.set j u):=by
 apply List.ext_getElem?
 intro k
 unfold zq1
 have hj:=(List.getElem?_eq_some_iff.1 hm).1
 rw[List.getElem?_modify,zns,zns]
 by_cases e:j=k
 ·subst e
  rw[List.getElem?_set_self hj,List.getElem?_set_self (by omega),hm,List.getElem?_eq_getElem (by omega)]
  simp
 ·rw[List.getElem?_set_ne e,List.getElem?_set_ne e]
  cases M[k]? <;> cases vs[k]? <;> simp[e]
theorem zpK{L:List (S3 × Value)}(s:S3)(v u:Value):zq1 (L++[(s,v)]) L.length u=L++[(s,u)]:=by
 apply List.ext_getElem?
 intro k
 unfold zq1
 rw[List.getElem?_modify]
 by_cases e:L.length=k
 ·subst e
  rw[List.getElem?_append_right (Nat.le_refl _),List.getElem?_append_right (Nat.le_refl _),Nat.sub_self]
  simp
 ·by_cases h:k<L.length
  ·rw[List.getElem?_append_left h,List.getElem?_append_left h]
   cases L[k]? <;> simp[e]
  ·rw[List.getElem?_eq_none (by simp;omega),List.getElem?_eq_none (by simp;omega)]
   rfl
variable {P:Program} {mt kt et ti:TypeId}
theorem zqI(h:SMap P mt kt et){w:World}{B r:Nat}{M:List (S3 × List Nat)}(hM:zda w B r ti M)(s:S3)(i:Nat) :
  ∃ (v:Value) (j:Nat) (o:Obj),(Instr.mapEntry mt (.map (some r)) (spK s)).run P w=.ok (.tuple #[v,.int .i64 j]) (w.putObj r o)∧o.isCells=false ∧
   w.ownsRow B ti 1 v (getM s M).length (ivs (getM s M)) ∧
   ∀ (w3:World) (u:Value),w3.heap[r]? = some o→w.heap.size≤w3.heap.size→(∀ g,g<w.heap.size→some g≠v.ownBlock→g≠r→w3.heap[g]? = w.heap[g]?)→w3.ownsRow B ti 1 u ((getM s M).length+1) (ivs (getM s M)++[.int .i64 (i:Int)])→(u.ownBlock=v.ownBlock∨∃ nb,u.ownBlock=some nb∧w.heap.size≤nb) →
    ∃ o2,(Instr.entryStore mt (.map (some r)) (.int .i64 j) u).run P w3=.ok () (w3.putObj r o2)∧o2.isCells=false∧zda (w3.putObj r o2) B r ti (zjD s i M):=by
 obtain⟨vs,hv,hm⟩:=hM
 have hr:r<w.heap.size:=(Array.getElem?_eq_some_iff.1 hm).1
 have old:∀ (v:Value) (w3:World) (o2:Obj),w3.heap.size≥w.heap.size→(∀ g,g<w.heap.size→some g≠v.ownBlock→g≠r→w3.heap[g]? = w.heap[g]?)→∀ (j:Nat) a m,vs[j]? = some a→M[j]? = some m→a.ownBlock≠v.ownBlock→(w3.putObj r o2).ownsRow B ti 1 a m.2.length (ivs m.2):=by
  intro v w3 o2 hs hk j a m ha hmj hne
  refine zbf (hv.own j a m ha hmj) fun g hg=>?_
  obtain⟨hlt,cur,hc⟩:=zaN (hv.own j a m ha hmj) hg
  have hgr:=hm.not_cells hc
  rw[World.putObj_heap_other hgr]
  exact hk g hlt (fun e=>hne (hg.trans e)) hgr
 rcases zic s i M vs 0 hv.len with⟨h1,h2,h3⟩|⟨j,v,l,h1,h2,h3,h4,h5⟩
 ·refine⟨.slice none 0 0,(zjz M vs).length,_,zqF h hm h1,rfl,by rw[h2];exact World.ownsRow_nil _ _ _ _,?_⟩
  intro w3 u hr3 hs3 hk hu hub
  have hm3:zms w3 r (zjz M vs++[(s,.slice none 0 0)]):=hr3
  refine⟨_,zh8 hm3 (by simp) u,rfl,vs++[u],?_,?_⟩
  ·rw[h3]
   obtain⟨nb,hnb⟩:=zdg hu (by omega)
   have hnew:w.heap.size≤nb:=by
    rcases hub with e | ⟨nb',e,hle⟩
    ·rw[hnb]at e;cases e
    ·rw[hnb]at e;cases e;exact hle
   have hug:nb≠r:=by omega
   refine⟨by simp[hv.len],?_,?_,?_⟩
   ·intro k a m ha hmk
    by_cases hkl:k<M.length
    ·rw[List.getElem?_append_left (by rw[hv.len];exact hkl)]at ha
     rw[List.getElem?_append_left hkl]at hmk
     refine old (.slice none 0 0) w3 _ hs3 hk k a m ha hmk ?_
     obtain⟨g,hg⟩:=zdg (hv.own k a m ha hmk) (by
      have:=hv.full m (List.mem_of_getElem? hmk)
      exact fun e=>this (List.eq_nil_of_length_eq_zero e))
     rw[hg]
     exact fun e=>by cases e
    ·have hk2:=(List.getElem?_eq_some_iff.1 hmk).1
     rw[List.length_append,List.length_singleton]at hk2
     obtain rfl:k=M.length:=by omega
     rw[List.getElem?_append_right (by rw[hv.len];exact Nat.le_refl _),hv.len,Nat.sub_self]at ha
     rw[List.getElem?_append_right (Nat.le_refl _),Nat.sub_self]at hmk
     cases ha
     cases hmk
     rw[h2]at hu
     refine zbf hu fun g hg=>?_
     rw[hnb]at hg
     cases hg
     exact World.putObj_heap_other hug
   ·intro j k a b hjk ha hb
    have key:∀ (j k:Nat) a b,j<k→(vs++[u])[j]? = some a→(vs++[u])[k]? = some b→a.ownBlock≠b.ownBlock:=by
     intro j k a b hlt ha hb
     have hk2:=(List.getElem?_eq_some_iff.1 hb).1
     rw[List.length_append,List.length_singleton]at hk2
     rw[List.getElem?_append_left (by omega)]at ha
     by_cases hkl:k<vs.length
     ·rw[List.getElem?_append_left hkl]at hb
      exact hv.apart j k a b (by omega) ha hb
     ·obtain rfl:k=vs.length:=by omega
      rw[List.getElem?_append_right (Nat.le_refl _),Nat.sub_self]at hb
      cases hb
      rw[hnb]
      intro e
      have hjl:=(List.getElem?_eq_some_iff.1 ha).1
      have:=(zaN (hv.own j a _ ha (List.getElem?_eq_getElem (by rw[← hv.len];exact hjl))) e).1
      omega
    rcases Nat.lt_or_gt_of_ne hjk with hlt | hlt
    ·exact key j k a b hlt ha hb
    ·exact fun e=>key k j b a hlt hb ha e.symm
   ·rw[← h3]
    exact upd_ne s i M hv.full
  ·have e:=zpK (L:=zjz M vs) s (.slice none 0 0) u
   have e2:=zmt M vs hv.len (s,[i]) u
   rw[h3]
   unfold zms
   rw[World.putObj_heap_same (by omega),e,e2]
 ·rw[Nat.zero_add]at h1
  refine⟨v,j,_,zqE h hm h1,rfl,by rw[h4];exact hv.own j v _ h2 h3,?_⟩
  intro w3 u hr3 hs3 hk hu hub
  have hm3:zms w3 r (zjz M vs):=hr3
  have hjl:=(List.getElem?_eq_some_iff.1 h3).1
  refine⟨_,zh8 hm3 (by rw[zq4 hv.len];exact hjl) u,rfl,vs.set j u,?_,?_⟩
  ·rw[h5]
   rw[h4]at hu
   obtain⟨nb,hnb⟩:=zdg hu (by omega)
   obtain⟨g0,hg0⟩:=zdg (hv.own j v _ h2 h3) (by
    have:=hv.full _ (List.mem_of_getElem? h3)
    exact fun e=>this (List.eq_nil_of_length_eq_zero e))
   obtain⟨hg0l,cur0,hc0⟩:=zaN (hv.own j v _ h2 h3) hg0
   have hug:nb≠r:=by
    rcases hub with e | ⟨nb',e,hle⟩
    ·rw[hnb,hg0]at e
     cases e
     exact hm.not_cells hc0
    ·rw[hnb]at e;cases e;omega
   have hfar:∀ (k:Nat) a,k≠j→vs[k]? = some a→a.ownBlock≠u.ownBlock:=by
    intro k a hkj ha e
    have hkl:=(List.getElem?_eq_some_iff.1 ha).1
    rcases hub with e2 | ⟨nb',e2,hle⟩
    ·exact hv.apart k j a v hkj ha h2 (e.trans e2)
    ·have:=(zaN (hv.own k a _ ha (List.getElem?_eq_getElem (by rw[← hv.len];exact hkl))) (e.trans e2)).1
     omega
   refine⟨by simp[hv.len],?_,?_,?_⟩
   ·intro k a m ha hmk
    by_cases e:j=k
    ·subst e
     rw[List.getElem?_set_self (by rw[hv.len];exact hjl)]at ha
     rw[List.getElem?_set_self hjl]at hmk
     cases ha
     cases hmk
     simp only[List.length_append,List.length_singleton]
     rw[show ivs (l++[i])=ivs l++[.int .i64 (i:Int)]from by unfold ivs;simp]
     refine zbf hu fun g hg=>?_
     rw[hnb]at hg
     cases hg
     exact World.putObj_heap_other hug
    ·rw[List.getElem?_set_ne e]at ha hmk
     exact old v w3 _ hs3 hk k a m ha hmk (hv.apart k j a v (fun h=>e h.symm) ha h2)
   ·intro p k a b hpk ha hb
    by_cases e1:j=p
    ·subst e1
     rw[List.getElem?_set_self (by rw[hv.len];exact hjl)]at ha
     rw[List.getElem?_set_ne hpk]at hb
     cases ha
     exact fun e=>hfar k b (fun h=>hpk h.symm) hb e.symm
    ·rw[List.getElem?_set_ne e1]at ha
     by_cases e2:j=k
     ·subst e2
      rw[List.getElem?_set_self (by rw[hv.len];exact hjl)]at hb
      cases hb
      exact hfar p a (fun h=>e1 h.symm) ha
     ·rw[List.getElem?_set_ne e2]at hb
      exact hv.apart p k a b hpk ha hb
   ·rw[← h5]
    exact upd_ne s i M hv.full
  ·have e:=zrg hv.len h3 (l++[i]) u
   rw[h5]
   unfold zms
   rw[World.putObj_heap_same (by omega),e]
structure Ln where
 k:Int
 fx:Str
 fy:Str
 fz:Str
 tx:Str
 ty:Str
 tz:Str
 l:Int
 r:Int
def Ln.f(x:Ln):S3:=(x.fx,x.fy,x.fz)
def Ln.t(x:Ln):S3:=(x.tx,x.ty,x.tz)
def lnC(x:Ln):List Value:=[.int .i64 x.k,.string ⟨x.fx.toArray⟩,.string ⟨x.fy.toArray⟩,.string ⟨x.fz.toArray⟩,.string ⟨x.tx.toArray⟩,.string ⟨x.ty.toArray⟩,.string ⟨x.tz.toArray⟩,.int .i64 x.l,.int .i64 x.r]
def ziL(x y:Ln):Prop:=(x.f=y.f∨x.f=y.t)∨(x.t=y.f∨x.t=y.t)
theorem ziL.symm{x y:Ln}(h:ziL x y):ziL y x:=by
 rcases h with(h | h)|(h | h)
 ·exact .inl (.inl h.symm)
 ·exact .inr (.inl h.symm)
 ·exact .inl (.inr h.symm)
 ·exact .inr (.inr h.symm)
def zce(L:List Ln)(k:Int):Nat→List (S3 × List Nat)
 | 0=>[]
 | i+1=>match L[i]? with
  | some x=>if x.k=k then zjD x.t i (zjD x.f i (zce L k i))else zce L k i
  | none=>zce L k i
theorem zhQ(L:List Ln)(k:Int)(s:S3)(j:Nat):∀ i,j∈getM s (zce L k i) ↔ ∃ x,j<i∧L[j]? = some x∧x.k=k∧(x.f=s∨x.t=s)
 | 0=>by
  constructor
  ·intro h;cases h
  ·rintro⟨x,h,-⟩;omega
 | i+1=>by
  have ih:=zhQ L k s j i
  have same:(∀ x,L[i]? = some x→x.k≠k)→((∃ x,j<i∧L[j]? = some x∧x.k=k∧(x.f=s∨x.t=s)) ↔ ∃ x,j<i+1∧L[j]? = some x∧x.k=k∧(x.f=s∨x.t=s)):=by
   intro hn
   constructor
   ·rintro⟨x,h1,h2⟩;exact⟨x,by omega,h2⟩
   ·rintro⟨x,h1,h2,h3,h4⟩
    refine⟨x,?_,h2,h3,h4⟩
    rcases Nat.lt_or_ge j i with h | h
    ·exact h
    ·obtain rfl:j=i:=by omega
     exact absurd h3 (hn x h2)
  unfold zce
  cases hx:L[i]? with
  | none =>
   rw[ih]
   exact same (fun x h=>by rw[hx]at h;cases h)
  | some y =>
   by_cases hk:y.k=k
   ·simp only[hk,if_true]
    rw[zkY,zkY,zkY]
    have hj:∀ l:List Nat,j∈l++[i] ↔ (j∈l∨j=i):=fun l=>by rw[List.mem_append,List.mem_singleton]
    have hi:(∃ x,j<i+1∧L[j]? = some x∧x.k=k∧(x.f=s∨x.t=s)) ↔ ((∃ x,j<i∧L[j]? = some x∧x.k=k∧(x.f=s∨x.t=s))∨(j=i∧(y.f=s∨y.t=s))):=by
     constructor
     ·rintro⟨x,h1,h2,h3,h4⟩
      rcases Nat.lt_or_ge j i with h | h
      ·exact .inl ⟨x,h,h2,h3,h4⟩
      ·obtain rfl:j=i:=by omega
       rw[hx]at h2
       cases h2
       exact .inr ⟨rfl,h4⟩
     ·rintro(⟨x,h1,h2⟩|⟨rfl,h⟩)
      ·exact⟨x,by omega,h2⟩
      ·exact⟨y,by omega,hx,hk,h⟩
    rw[hi,← ih]
    by_cases h1:s=y.t
    ·rw[if_pos h1]
     by_cases h2:y.t=y.f
     ·rw[if_pos h2,hj,hj]
      have h3:y.f=s:=(h1.trans h2).symm
      rw[h3]
      constructor
      ·rintro((h | h) | h)
       ·exact .inl h
       ·exact .inr ⟨h,.inl rfl⟩
       ·exact .inr ⟨h,.inl rfl⟩
      ·rintro(h | ⟨h,-⟩)
       ·exact .inl (.inl h)
       ·exact .inr h
     ·rw[if_neg h2,hj,← h1]
      constructor
      ·rintro(h | h)
       ·exact .inl h
       ·exact .inr ⟨h,.inr rfl⟩
      ·rintro(h | ⟨h,-⟩)
       ·exact .inl h
       ·exact .inr h
    ·rw[if_neg h1]
     by_cases h2:s=y.f
     ·rw[if_pos h2,hj,← h2]
      constructor
      ·rintro(h | h)
       ·exact .inl h
       ·exact .inr ⟨h,.inl rfl⟩
      ·rintro(h | ⟨h,-⟩)
       ·exact .inl h
       ·exact .inr h
     ·rw[if_neg h2]
      constructor
      ·exact .inl
      ·rintro(h | ⟨-,h | h⟩)
       ·exact h
       ·exact absurd h.symm h2
       ·exact absurd h.symm h1
   ·simp only[hk,if_false]
    rw[ih]
    exact same (fun x h=>by rw[hx]at h;cases h;exact hk)
def zjL(L:List Ln)(k:Int):Net:=⟨L.length,fun a=>(L[a]?).any fun x=>x.k == k,fun a=>match L[a]? with
 | some x=>getM x.f (zce L k L.length)++getM x.t (zce L k L.length)
 | none=>[]⟩
theorem zgW(L:List Ln)(k:Int)(a b:Nat):b∈(zjL L k).nb a ↔ ∃ x y,L[a]? = some x∧L[b]? = some y∧y.k=k∧ziL x y:=by
 unfold zjL
 simp only
 cases hx:L[a]? with
 | none =>
  constructor
  ·intro h;cases h
  ·rintro⟨x,y,h,-⟩;cases h
 | some x =>
  simp only[List.mem_append,zhQ]
  constructor
  ·rintro(⟨y,-,h2,h3,h4⟩|⟨y,-,h2,h3,h4⟩)
   ·exact⟨x,y,rfl,h2,h3,.inl (h4.imp Eq.symm Eq.symm)⟩
   ·exact⟨x,y,rfl,h2,h3,.inr (h4.imp Eq.symm Eq.symm)⟩
  ·rintro⟨x',y,h1,h2,h3,h4⟩
   cases h1
   have hb:=(List.getElem?_eq_some_iff.1 h2).1
   rcases h4 with h4 | h4
   ·exact .inl ⟨y,hb,h2,h3,h4.imp Eq.symm Eq.symm⟩
   ·exact .inr ⟨y,hb,h2,h3,h4.imp Eq.symm Eq.symm⟩
theorem zho(L:List Ln)(k:Int)(a:Nat):(zjL L k).K a=true ↔ ∃ x,L[a]? = some x∧x.k=k:=by
 unfold zjL
 simp only
 cases L[a]? with
 | none=>simp
 | some x=>simp
theorem zm2(L:List Ln)(k:Int):NetOk (zjL L k) where
 lt:=fun a b h=>by
  obtain⟨x,y,-,h2,-⟩:=(zgW L k a b).1 h
  exact(List.getElem?_eq_some_iff.1 h2).1
 own:=fun a b h=>by
  obtain⟨x,y,-,h2,h3,-⟩:=(zgW L k a b).1 h
  exact(zho L k b).2 ⟨y,h2,h3⟩
 sym:=fun a b hk _ h=>by
  obtain⟨x,y,h1,h2,h3,h4⟩:=(zgW L k a b).1 h
  obtain⟨x',h5,h6⟩:=(zho L k a).1 hk
  rw[h1]at h5
  cases h5
  exact(zgW L k b a).2 ⟨y,x,h2,h1,h6,h4.symm⟩
end
section
open Go.RowKit Go.Shelf Kp
open Go.Sort (Holds putRow grow)
theorem zon(l:List Nat):∃ x:List Nat,((l.map fun(i:Nat)=>(i:Int)).mergeSort fun x y=>decide (x≤y))=x.map (fun(i:Nat)=>(i:Int))∧x.Pairwise (·≤·)∧x.Perm l:=by
 have hp:=List.mergeSort_perm (l.map fun(i:Nat)=>(i:Int)) (fun x y=>decide (x≤y))
 have hs:=List.pairwise_mergeSort (le:=fun(x y:Int)=>decide (x≤y)) (fun a b c h1 h2=>by simp only[decide_eq_true_eq]at *;omega) (fun a b=>by simp only[Bool.or_eq_true,decide_eq_true_eq];omega) (l.map fun(i:Nat)=>(i:Int))
 generalize (l.map fun(i:Nat)=>(i:Int)).mergeSort (fun x y=>decide (x≤y))=z at *
 have hz:∀ a∈z,0≤a:=fun a ha=>by
  obtain⟨i,-,rfl⟩:=List.mem_map.1 (hp.mem_iff.1 ha)
  omega
 refine⟨z.map Int.toNat,?_,?_,?_⟩
 ·rw[List.map_map]
  refine(List.map_id z).symm.trans (List.map_congr_left fun a ha=>?_)
  have:=hz a ha
  simp only[id_eq,Function.comp_apply]
  omega
 ·rw[List.pairwise_map]
  refine hs.imp fun {a b} h=>?_
  simp only[decide_eq_true_eq]at h
  omega
 ·have h1:=hp.map Int.toNat
  rw[List.map_map]at h1
  have:l.map (Int.toNat ∘ fun(i:Nat)=>(i:Int))=l:=by
   conv=>rhs;rw[← List.map_id l]
   exact List.map_congr_left fun a _=>by simp
  rw[this]at h1
  exact h1
theorem zpD(l:List Nat)(h0:0<l.length)(hlen:l.length≤1000)(B:Nat)(v:Value)(w:World)(hr:w.ownsRow B 3 1 v l.length (ivs l)) :
  Calls Tryz.prog 25 #[v] w fun e w'=>e=.returned (.tuple #[])∧w.grownBy w' v.ownBlock∧∃ x:List Nat,x.Pairwise (·≤·)∧x.Perm l∧w'.ownsRow B 3 1 v l.length (ivs x):=by
 rcases hr.2 with⟨-,hn⟩|⟨g,cap,cur,rfl,hg,hc,hcap,hmax,hsz,htk⟩
 ·omega
 have hz:(l.map fun(i:Nat)=>(i:Int)).length=l.length:=List.length_map _
 have hi:ivs l=(l.map fun(i:Nat)=>(i:Int)).map (Value.int .i64):=by unfold ivs;rw[List.map_map];rfl
 rw[Nat.mul_one,hi,← hz]at htk
 have hh:=holds_of_blockI hc htk
 have hlt:g<w.heap.size:=(Array.getElem?_eq_some_iff.1 hc).1
 have H:=Tryz.slices_Sort_int g 0 cap (l.map fun(i:Nat)=>(i:Int)) w hh hlt (by rw[hz];omega)
 rw[hz]at H
 refine H.mono ?_
 rintro e w2⟨rfl,n,os,rfl⟩
 obtain⟨x,hx,hsx,hpx⟩:=zon l
 rw[hx]
 refine⟨rfl,grownBy_sortedI _,x,hsx,hpx,?_⟩
 have hxl:(x.map fun(i:Nat)=>(i:Int)).length=(l.map fun(i:Nat)=>(i:Int)).length:=by rw[List.length_map,List.length_map];exact hpx.length_eq
 have:=ownsRow_sortedI (n:=n) (os:=os) (ss:=l.map fun(i:Nat)=>(i:Int)) (ts:=x.map fun(i:Nat)=>(i:Int)) hxl hg hc (by rw[hz];exact hcap) hmax hsz
 rw[hz,List.map_map]at this
 exact this
end
end Go.Proofs.YtapnkgdnflofbaaGreatDoor
