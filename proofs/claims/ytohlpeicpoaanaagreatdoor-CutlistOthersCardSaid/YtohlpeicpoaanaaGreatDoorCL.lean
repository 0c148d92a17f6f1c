/-
  slices.SortFunc at pieces.; Splitting a list of pieces: the mathematics.; Splitting a list of pieces: what it keeps.
-/
import Derived.Test.YtohlpeicpoaanaaGreatDoorCE
import Derived.Test.YtohlpeicpoaanaaGreatDoorSortC
namespace Go.Proofs.YtohlpeicpoaanaaGreatDoor
section
open Go.RowKit Kp Go.Sort
abbrev CV:=Ct × Value
def cvC (p:CV):List Value:=ctC p.1 p.2
theorem cvC_len (p:CV):(cvC p).length=4:=rfl
def numC (l:List Int):List Value:=l.map fun x=>.int .i64 x
theorem rowOf_num:∀ l:List Int,rowOf (fun x:Int=>[Value.int .i64 x]) l=numC l
 | []=>rfl
 | x::l=>by
  have ih:=rowOf_num l
  unfold rowOf numC at *
  rw [List.flatMap_cons,List.map_cons,ih]; rfl
def Mine (w:World) (p:CV):Prop:=0<p.1.ms.length∧w.ownsRow 0 3 1 p.2 p.1.ms.length (numC p.1.ms)
theorem Mine.num {w:World} {p:CV} (h:Mine w p):NumSl w p.2 p.1.ms:=RowSl.of_row (fun _=>rfl) (by rw [rowOf_num]; exact h.2)
theorem Mine.fst {w:World} {p:CV} (h:Mine w p):Fst w p.2 (atI p.1.ms 0):=NumSl.fst h.num h.1
theorem Mine.block {w:World} {p:CV} (h:Mine w p):∃ g cap cs,p.2=.slice (some ⟨g,0,none⟩) p.1.ms.length cap∧w.heap[g]?=some (.cells cs 3 (0,0)):=by
 rcases h.2.2 with ⟨_,hn⟩ | ⟨g,cap,cur,hv,_,hc,_⟩
 ·have:=h.1; omega
 ·exact ⟨g,cap,cur,hv,hc⟩
theorem Mine.of {w w':World} {p:CV} (h:Mine w p) (hk:∀ (g:Nat) (cs:Array Value) (f:Nat × Nat),w.heap[g]?=some (Obj.cells cs 3 f)→w'.heap[g]?=some (Obj.cells cs 3 f)):Mine w' p:=by
 refine ⟨h.1,h.2.1,h.2.2.elim .inl ?_⟩
 rintro ⟨g,cap,cur,hv,hb,hc,r⟩
 exact .inr ⟨g,cap,cur,hv,hb,hk _ _ _ hc,r⟩
theorem beh_iff (x y:Ct):behF x y=true ↔ x.w<y.w∨(x.w=y.w∧(x.d<y.d∨(x.d=y.d∧(y.n<x.n∨(x.n=y.n∧atI x.ms 0<atI y.ms 0))))):=by
 unfold behF
 by_cases h1:x.w=y.w
 ·rw [if_neg (by simpa using h1)]
  by_cases h2:x.d=y.d
  ·rw [if_neg (by simpa using h2)]
   by_cases h3:x.n=y.n
   ·rw [if_neg (by simpa using h3),decide_eq_true_eq]; omega
   ·rw [if_pos (by simpa using h3),decide_eq_true_eq]; omega
  ·rw [if_pos (by simpa using h2),decide_eq_true_eq]; omega
 ·rw [if_pos (by simpa using h1),decide_eq_true_eq]; omega
theorem lt_beh (x y:Ct):decide (ordF x y<0)=behF x y:=by
 rw [beh_ord]
 by_cases h:0≤ordF x y
 ·rw [decide_eq_true h,decide_eq_false (by omega)]; rfl
 ·rw [decide_eq_false h,decide_eq_true (by omega)]; rfl
theorem beh_no {x y:Ct} (h:behF x y=false):¬ (x.w<y.w∨(x.w=y.w∧(x.d<y.d∨(x.d=y.d∧(y.n<x.n∨(x.n=y.n∧atI x.ms 0<atI y.ms 0)))))):=fun hc=>by
 rw [(beh_iff x y).2 hc] at h; cases h
variable {L:List CV}
abbrev InL (L:List CV):={p:CV // p∈L}
def inC (x:InL L):List Value:=cvC x.1
def inO (x y:InL L):Int:=ordF x.1.1 y.1.1
theorem swo_in:SWO (ltOf (inO (L:=L))) where
 irrefl x:=by
  show decide (ordF _ _<0)=false
  rw [lt_beh,Bool.eq_false_iff]
  intro h; have:=(beh_iff _ _).1 h; omega
 trans x y z h1 h2:=by
  show decide (ordF _ _<0)=true
  have h1':decide (ordF x.1.1 y.1.1<0)=true:=h1
  have h2':decide (ordF y.1.1 z.1.1<0)=true:=h2
  rw [lt_beh] at *
  have a:=(beh_iff _ _).1 h1'
  have b:=(beh_iff _ _).1 h2'
  refine (beh_iff _ _).2 ?_
  omega
 ntrans x y z h1 h2:=by
  show decide (ordF _ _<0)=false
  have h1':decide (ordF x.1.1 y.1.1<0)=false:=h1
  have h2':decide (ordF y.1.1 z.1.1<0)=false:=h2
  rw [lt_beh] at *
  have a:=beh_no h1'
  have b:=beh_no h2'
  rw [Bool.eq_false_iff]
  intro h; have:=(beh_iff _ _).1 h
  omega
theorem sort_keep {w:World} {blk off m:Nat} {F:Array Value} {os:Array Obj} {a:Addr} {u:Value} (hne:a.block≠blk) (hc:w.cell? a=some u):(grow (putRow id (Sort.ahead w m) blk off F) os).cell? a=some u:=by
 have h1:(putRow id (Sort.ahead w m) blk off F).cell? a=some u:=by rw [cell?_putRow_other id _ _ _ _ _ (.inl hne)]; exact hc
 exact gcell (w:=putRow id (Sort.ahead w m) blk off F) ⟨0,os,rfl⟩ h1
theorem cmp_in [Inhabited (InL L)] {w:World} {g:Nat} {cur:Array Value} {f:Nat × Nat} (hc:w.heap[g]?=some (.cells cur 42 f)) (hL:∀ p∈L,Mine w p) (n:Nat):CmpLays Tryz.prog 31 #[] (inC (L:=L)) 4 inO g 0 n w:=by
 intro m os dk _ x y
 have hF:∀ z:InL L,Fst (sortWorldK (inC (L:=L)) 4 w g 0 m dk os) z.1.2 (atI z.1.1.ms 0):=fun z=>by
  have hz:=hL z.1 z.2
  obtain ⟨b,cp,cs,hv,hb⟩:=hz.block
  obtain ⟨b',o',n',cp',hv',hn',hcell⟩:=hz.fst
  refine ⟨b',o',n',cp',hv',hn',?_⟩
  have hne:b'≠g:=by
   intro e
   rw [hv] at hv'
   injection hv' with h1 _ _
   injection h1 with h1
   injection h1 with h1 _
   rw [h1,e,hc] at hb
   injection hb with hb
   injection hb with _ h2 _
   exact absurd h2 (by decide)
  exact sort_keep hne hcell
 exact (cut_order x.1.1 y.1.1 x.1.2 y.1.2 _ (hF x) (hF y)).mono fun e w' h=>⟨h.1,h.2⟩
theorem cvRow_get (L:List CV) (i:Nat) (h:i<L.length) (j:Nat) (hj:j<4):(rowOf cvC L)[i*4+j]?=(cvC L[i])[j]?:=rowOf_get cvC_len L i h j hj
set_option maxHeartbeats 1000000 in
theorem cut_sort (L:List CV) (hl:L.length<4611686018427387904) (B:Nat) (v:Value) (w:World) (ho:w.ownsRow B 42 4 v L.length (rowOf cvC L)) (hL:∀ p∈L,Mine w p) :
  Calls Tryz.prog 30 #[v,.func (.func 31) #[] #[]] w fun e w'=>e=.returned (.tuple #[])∧Below B w w' ∧
   ∃ L':List CV,L'.Perm L∧L'.Pairwise (fun x y=>behF y.1 x.1=false)∧(∀ p∈L',Mine w' p)∧(L=[]∨RowSl 4 cvC w' v L'):=by
 rcases ho.2 with ⟨rfl,hn⟩ | ⟨g,cap,cur,rfl,hg,hc,hnc,hcm,hsz,htk⟩
 ·refine (AnyF.slices_SortFunc_none Tryz.sortCut none 0 _ w).mono ?_
  rintro e w' ⟨rfl,rfl⟩
  have hnil:=List.eq_nil_of_length_eq_zero hn
  exact ⟨rfl,Below.refl _ _,L,.refl _,by rw [hnil]; exact .nil,hL,.inl hnil⟩
 ·by_cases h0:L=[]
  ·subst h0
   refine (AnyF.slices_SortFunc_none Tryz.sortCut (some ⟨g,0,none⟩) cap _ w).mono ?_
   rintro e w' ⟨rfl,rfl⟩
   exact ⟨rfl,Below.refl _ _,[],.refl _,.nil,hL,.inl rfl⟩
  ·obtain ⟨p0,hp0⟩:=List.exists_mem_of_ne_nil L h0
   haveI:Inhabited (InL L):=⟨⟨p0,hp0⟩⟩
   have hgl:=(Array.getElem?_eq_some_iff.1 hc).1
   have hds:L.attach.toArray.size=L.length:=by simp
   have hH:HoldsK (inC (L:=L)) 4 w g 0 L.attach.toArray:=by
    intro t ht
    rw [size_flatK] at ht
    have ht':t<L.length*4:=by rw [← hds]; exact ht
    rw [get_flatK _ _ _ _ ht]
    refine ⟨?_,World.ownsRow.frozenAt ho _⟩
    have hi:t / 4<L.length:=Nat.div_lt_of_lt_mul (by omega)
    have hm:=Nat.mod_lt t (show 0<4 by decide)
    have h2:=cvRow_get L (t / 4) hi (t % 4) hm
    rw [show t / 4*4+t % 4=t by omega] at h2
    have h3:=World.ownsRow.cellAt ho t ht'
    have e:inC (L.attach.toArray[t / 4]!)=cvC L[t / 4]:=by
     rw [getElem!_pos _ _ (by rw [hds]; exact hi)]
     unfold inC
     simp
    rw [e,Nat.zero_add,h3,h2,List.getElem?_eq_getElem (by rw [cvC_len]; exact hm),getElem!_pos _ _ (by rw [cvC_len]; exact hm)]
    rfl
   have hcon:=AnyQ.slices_SortFunc Tryz.sortCut 4 Tryz.isAgg42 Tryz.sizeOf42 (inC (L:=L)) (fun _=>rfl) (fun x v hv=>by
    have hx:=hL x.1 x.2
    obtain ⟨b,cp,cs,hv2,_⟩:=hx.block
    unfold inC cvC ctC at hv
    simp only [List.mem_cons,List.not_mem_nil,or_false] at hv
    rcases hv with rfl | rfl | rfl | rfl
    ·rfl
    ·rfl
    ·rfl
    ·rw [hv2]; rfl) inO swo_in 31 #[] g 0 cap L.attach.toArray w (fun args w=>by kernel_rfl) (cmp_in hc hL _) hH hgl (by rw [hds]; exact hl)
   rw [hds] at hcon
   refine hcon.mono ?_
   rintro e w' ⟨rfl,d',n,os,hp,hs,rfl⟩
   have hds':d'.size=L.length:=by rw [hp.1,hds]
   have hperm:(d'.toList.map (·.1)).Perm L:=by
    have h:=hp.2.2
    rw [Array.extract_eq_self_of_le (by omega),Array.extract_eq_self_of_le (by omega)] at h
    have h2:=h.map (fun x:InL L=>x.1)
    rwa [show L.attach.toArray.toList.map (fun x:InL L=>x.1)=L from List.attach_map_subtype_val L] at h2
   have hlen:(d'.toList.map (fun x:InL L=>x.1)).length=L.length:=by rw [List.length_map,Array.length_toList,hds']
   have hheap:∀ k o,k≠g→w.heap[k]?=some o→(sortWorldK (inC (L:=L)) 4 w g 0 n d' os).heap[k]?=some o:=fun k o hk ho=>by
    have hkl:=(Array.getElem?_eq_some_iff.1 ho).1
    show ((putRow id (Sort.ahead w n) g 0 (flatK inC 4 d')).heap++os)[k]?=some o
    rw [Array.getElem?_append_left (by rw [size_putRow]; exact hkl)]
    have:¬ g=k:=fun e=>hk e.symm
    simpa [putRow,mapBlock,Sort.ahead,Array.getElem?_modify,this] using ho
   have hsize:w.heap.size≤(sortWorldK (inC (L:=L)) 4 w g 0 n d' os).heap.size:=by
    show _≤((putRow id (Sort.ahead w n) g 0 (flatK inC 4 d')).heap++os).size
    rw [Array.size_append,size_putRow]
    show w.heap.size≤w.heap.size+os.size
    omega
   have hK:=holdsK_sortWorldK_c (inC (L:=L)) 4 w g 0 L.attach.toArray d' n os hH hgl (by rw [hds',hds])
   refine ⟨rfl,⟨rfl,rfl,rfl,hsize,fun k hk=>?_⟩,d'.toList.map (fun x:InL L=>x.1),hperm,?_,?_,.inr ⟨some ⟨g,0,none⟩,cap,by rw [hlen],fun i hi=>⟨g,0,rfl,Nat.lt_of_lt_of_le hgl hsize,fun j u hj=>?_⟩⟩⟩
   ·have hkl:k<w.heap.size:=by omega
    rw [hheap k _ (by omega) (Array.getElem?_eq_getElem hkl),Array.getElem?_eq_getElem hkl]
   ·rw [List.pairwise_iff_getElem]
    intro i j hi hj hij
    rw [hlen] at hi hj
    have h:=hs i j (Nat.zero_le _) hij hj
    rw [getElem!_pos d' j (by omega),getElem!_pos d' i (by omega)] at h
    have h':decide (ordF d'[j].1.1 d'[i].1.1<0)=false:=h
    rw [lt_beh] at h'
    simpa using h'
   ·intro p hp'
    refine (hL p (hperm.mem_iff.1 hp')).of fun b cs f hb=>hheap b _ (fun e=>?_) hb
    rw [e,hc] at hb
    injection hb with hb
    injection hb with _ h2 _
    exact absurd h2 (by decide)
   ·rw [hlen] at hi
    have hj4:j<4:=by have:=(List.getElem?_eq_some_iff.1 hj).1; rwa [cvC_len] at this
    have a:=(hK.cell (i:=i) (c:=j) (by omega) hj4).1
    rw [a]
    have e:inC d'[i]! = cvC (d'.toList.map (fun x:InL L=>x.1))[i]:=by
     rw [getElem!_pos d' i (by omega)]
     unfold inC
     simp
    rw [e,← hj,List.getElem?_eq_getElem (by rw [cvC_len]; exact hj4),getElem!_pos _ _ (by rw [cvC_len]; exact hj4)]
theorem Mine.grown {w w':World} {p:CV} {B n:Nat} {o:Value} {xs:List Value} (h:Mine w p) (ho:w.ownsRow B 42 4 o n xs) (hg:w.grownBy w' o.ownBlock):Mine w' p :=
 h.of fun g cs f hb=>(hg.block g (Array.getElem?_eq_some_iff.1 hb).1 (fun e=>by
  rcases ho.2 with ⟨rfl,_⟩ | ⟨k,cap,cur,rfl,_,hc,_⟩
  ·cases e
  ·simp only [Value.ownBlock,Option.some.injEq] at e
   rw [e,hc] at hb
   injection hb with hb
   injection hb with _ h2 _
   exact absurd h2 (by decide))).trans hb
theorem Mine.kc {w w':World} {p:CV} (h:Mine w p) (hk:KC w w'):Mine w' p:=h.of fun g cs f hb=>hk.2 g cs 3 f hb
theorem Mine.q {w w':World} {p:CV} (h:Mine w p) (hq:Q w w'):Mine w' p:=h.kc (KC.q hq)
theorem CtSl.of {w:World} {v:Value} {L:List CV} (h:RowSl 4 cvC w v L) (hn:∀ p∈L,NumSl w p.2 p.1.ms):CtSl w v (L.map (·.1)):=by
 obtain ⟨a,cap,rfl,hc⟩:=h
 refine ⟨a,cap,by rw [List.length_map],fun i hi=>?_⟩
 rw [List.length_map] at hi
 obtain ⟨b,o,ha,hb,hcell⟩:=hc i hi
 have e:ctAt (L.map (·.1)) i=L[i].1:=by rw [ctAt_get (by rw [List.length_map]; exact hi),List.getElem_map]
 rw [e]
 exact ⟨b,o,L[i].2,ha,hb,hn _ (List.getElem_mem hi),fun j z hj=>hcell j z hj⟩
theorem perm_two {α:Type} {l:List α} {a b:α} (h:l.Perm [a,b]):l=[a,b]∨l=[b,a]:=by
 have hl:=h.length_eq
 obtain ⟨x,y,rfl⟩:∃ x y,l=[x,y]:=by
  match l,hl with
  | [x,y],_=>exact ⟨x,y,rfl⟩
 have hx:x∈[a,b]:=h.mem_iff.1 (by simp)
 rw [List.mem_cons,List.mem_singleton] at hx
 rcases hx with rfl | rfl
 ·have:=List.perm_singleton.1 (List.Perm.cons_inv h)
  exact .inl (by rw [this])
 ·have:=List.perm_singleton.1 (List.Perm.cons_inv (h.trans (List.Perm.swap x a [])))
  exact .inr (by rw [this])
end
section
open Go.RowKit Kp Go.Sort
theorem sorted_unique {α:Type} {r:α→α→Prop} (ht:∀ a b c,r a b→r b c→r a c) (hi:∀ a,¬ r a a):∀ {l k:List α},l.Pairwise r→k.Pairwise r→(∀ x,x∈l ↔ x∈k)→l=k
 | [],[],_,_,_=>rfl
 | [],b::k,_,_,hm=>by have:=(hm b).2 (by simp); cases this
 | a::l,[],_,_,hm=>by have:=(hm a).1 (by simp); cases this
 | a::l,b::k,hl,hk,hm=>by
  rw [List.pairwise_cons] at hl hk
  have hab:a=b:=by
   rcases List.mem_cons.1 ((hm a).1 (by simp)) with h | h
   ·exact h
   ·rcases List.mem_cons.1 ((hm b).2 (by simp)) with h2 | h2
    ·exact h2.symm
    ·exact absurd (ht _ _ _ (hl.1 b h2) (hk.1 a h)) (hi a)
  subst hab
  rw [sorted_unique ht hi hl.2 hk.2 (fun x=>⟨fun hx=>?_,fun hx=>?_⟩)]
  ·rcases List.mem_cons.1 ((hm x).1 (List.mem_cons_of_mem _ hx)) with h | h
   ·subst h; exact absurd (hl.1 _ hx) (hi _)
   ·exact h
  ·rcases List.mem_cons.1 ((hm x).2 (List.mem_cons_of_mem _ hx)) with h | h
   ·subst h; exact absurd (hk.1 _ hx) (hi _)
   ·exact h
theorem beh_trans (a b c:Ct) (h1:behF a b=true) (h2:behF b c=true):behF a c=true:=by
 have h1':=(beh_iff _ _).1 h1
 have h2':=(beh_iff _ _).1 h2
 exact (beh_iff _ _).2 (by omega)
theorem beh_irr (a:Ct):¬ behF a a=true:=fun h=>by have:=(beh_iff _ _).1 h; omega
structure Good (l:List Ct):Prop where
 len:l.length≤512
 pc:∀ i,i<l.length→pieceF (ctAt l i)=0
 ord:∀ i,i+1<l.length→behF (ctAt l i) (ctAt l (i+1))=true
 new:∀ i,i<l.length→∀ m∈(ctAt l i).ms,¬ m∈memb l i
theorem chkK_good (l:List Ct):∀ (n k:Nat),k+n=l.length→(chkK l k=0 ↔ ∀ i,k≤i→i<l.length→pieceF (ctAt l i)=0∧(0<i→behF (ctAt l (i - 1)) (ctAt l i)=true)∧∀ m∈(ctAt l i).ms,¬ m∈memb l i)
 | 0,k,hk=>by
  obtain rfl:k=l.length:=by omega
  rw [chkK_end]
  exact ⟨fun _ i h1 h2=>by omega,fun _=>rfl⟩
 | n+1,k,hk=>by
  have ih:=chkK_good l n (k+1) (by omega)
  rw [chkK_step (by omega)]
  have hb:=beh_ord (ctAt l (k - 1)) (ctAt l k)
  constructor
  ·intro h
   split at h
   ·exact absurd h ‹_›
   ·rename_i hp
    split at h
    ·cases h
    ·rename_i ho
     split at h
     ·cases h
     ·rename_i hd
      have hr:=ih.1 h
      intro i h1 h2
      rcases Nat.lt_or_ge k i with h3 | h3
      ·exact hr i h3 h2
      ·obtain rfl:i=k:=by omega
       refine ⟨Classical.not_not.1 hp,fun h0=>?_,fun m hm hin=>hd (List.any_eq_true.2 ⟨m,hm,decide_eq_true hin⟩)⟩
       rw [hb]
       rw [show decide (0<i)=true from decide_eq_true h0,Bool.true_and] at ho
       rw [Bool.eq_false_iff.2 ho]; rfl
  ·intro h
   have h0:=h k (Nat.le_refl _) (by omega)
   rw [if_neg (by rw [h0.1]; decide),if_neg,if_neg]
   ·exact ih.2 (fun i h1 h2=>h i (by omega) h2)
   ·intro ha
    obtain ⟨m,hm,hx⟩:=List.any_eq_true.1 ha
    exact h0.2.2 m hm (of_decide_eq_true hx)
   ·intro ha
    rw [Bool.and_eq_true,decide_eq_true_eq] at ha
    have h1:=h0.2.1 ha.1
    rw [hb,ha.2] at h1
    cases h1
theorem good_iff (l:List Ct):chkF l=0 ↔ Good l:=by
 unfold chkF
 constructor
 ·intro h
  split at h
  ·cases h
  ·rename_i h5
   rw [← chkK_zero] at h
   have hg:=(chkK_good l l.length 0 (by omega)).1 h
   exact ⟨by omega,fun i hi=>(hg i (Nat.zero_le _) hi).1,fun i hi=>(hg (i+1) (Nat.zero_le _) hi).2.1 (by omega),fun i hi=>(hg i (Nat.zero_le _) hi).2.2⟩
 ·intro h
  rw [if_neg (by have:=h.len; omega),← chkK_zero]
  refine (chkK_good l l.length 0 (by omega)).2 (fun i _ hi=>⟨h.pc i hi,fun h0=>?_,h.new i hi⟩)
  obtain ⟨j,rfl⟩:∃ j,i=j+1:=⟨i - 1,by omega⟩
  exact h.ord j hi
structure PcOk (x:Ct):Prop where
 w1:1≤x.w
 w2:x.w≤1000
 d1:1≤x.d
 d2:x.d≤1000
 n1:1≤x.n
 n2:x.n≤1048576
 some:0<x.ms.length
 off:∀ m∈x.ms,0≤m∧m<512
 asc:ascF x.ms=true
theorem pc_iff (x:Ct):pieceF x=0 ↔ PcOk x:=by
 unfold pieceF outF
 constructor
 ·intro h
  split at h
  ·cases h
  ·rename_i ho
   simp only [Bool.or_eq_true,decide_eq_true_eq] at ho
   split at h
   ·cases h
   ·rename_i hl
    split at h
    ·cases h
    ·rename_i ha
     split at h
     ·rename_i hac
      refine ⟨by omega,by omega,by omega,by omega,by omega,by omega,Nat.pos_of_ne_zero hl,fun m hm=>?_,hac⟩
      have hof:¬ offF m=true:=fun hx=>ha (List.any_eq_true.2 ⟨m,hm,hx⟩)
      unfold offF at hof
      simp only [Bool.or_eq_true,decide_eq_true_eq] at hof
      omega
     ·cases h
 ·intro h
  obtain ⟨w1,w2,d1,d2,n1,n2,hl,hof,hac⟩:=h
  rw [if_neg (by simp only [Bool.or_eq_true,decide_eq_true_eq]; omega),if_neg (by omega),if_neg,if_pos hac]
  intro ha
  obtain ⟨m,hm,hx⟩:=List.any_eq_true.1 ha
  have:=hof m hm
  unfold offF at hx
  simp only [Bool.or_eq_true,decide_eq_true_eq] at hx
  omega
theorem Good.ok {l:List Ct} (h:Good l) {x:Ct} (hx:x∈l):PcOk x:=by
 obtain ⟨i,hi,rfl⟩:=List.mem_iff_getElem.1 hx
 rw [← ctAt_get hi]
 exact (pc_iff _).1 (h.pc i hi)
theorem Good.lt {l:List Ct} (h:Good l) {i:Nat}:∀ {j:Nat},i<j→j<l.length→behF (ctAt l i) (ctAt l j)=true
 | 0,hi,_=>absurd hi (Nat.not_lt_zero _)
 | j+1,hi,hj=>by
  have h1:=h.ord j hj
  rcases Nat.lt_or_ge i j with h2 | h2
  ·exact beh_trans _ _ _ (h.lt h2 (by omega)) h1
  ·obtain rfl:i=j:=by omega
   exact h1
theorem Good.pw {l:List Ct} (h:Good l):l.Pairwise (fun x y=>behF x y=true):=by
 rw [List.pairwise_iff_getElem]
 intro i j hi hj hij
 have:=h.lt hij hj
 rwa [ctAt_get hi,ctAt_get hj] at this
theorem asc_pw {l:List Int} (h:ascF l=true):l.Pairwise (·<·):=by
 rw [List.pairwise_iff_getElem]
 intro i j hi hj hij
 have:=asc_lt h hij hj
 rwa [atI_get hi,atI_get hj] at this
theorem asc_nodup {l:List Int} (h:ascF l=true):l.Nodup:=(asc_pw h).imp (fun h=>Int.ne_of_lt h)
theorem Good.nodup {l:List Ct} (h:Good l):∀ k,k≤l.length→(memb l k).Nodup
 | 0,_=>List.nodup_nil
 | k+1,hk=>by
  rw [memb_step hk,List.nodup_append]
  refine ⟨h.nodup k (by omega),asc_nodup ((pc_iff _).1 (h.pc k hk)).asc,fun a ha b hb e=>?_⟩
  subst e
  exact h.new k hk a hb ha
theorem memb_all (l:List Ct):memb l l.length=l.flatMap (·.ms):=by unfold memb; rw [List.take_length]
end
section
open Go.RowKit Kp Go.Sort
def sumI:List Int→Int
 | []=>0
 | x::l=>x+sumI l
theorem sumI_append:∀ a b:List Int,sumI (a++b)=sumI a+sumI b
 | [],b=>by simp [sumI]
 | x::a,b=>by rw [List.cons_append,sumI,sumI,sumI_append a b,Int.add_assoc]
def spl (x:Ct):List Ct:=x.ms.map fun m=>⟨x.w,x.d,x.n,[m]⟩
def splF (l:List Ct):List Ct:=l.flatMap spl
def allM (l:List Ct):List Int:=l.flatMap (·.ms)
def totF (l:List Ct):Int:=sumI (l.map fun x=>x.n*(x.ms.length:Int))
theorem totF_append (a b:List Ct):totF (a++b)=totF a+totF b:=by unfold totF; rw [List.map_append,sumI_append]
theorem allM_spl (w d n:Int):∀ ms:List Int,allM (ms.map fun m=>⟨w,d,n,[m]⟩)=ms
 | []=>rfl
 | m::ms=>by
  have ih:=allM_spl w d n ms
  unfold allM at *
  rw [List.map_cons,List.flatMap_cons,ih]; rfl
theorem allM_splF:∀ l:List Ct,allM (splF l)=allM l
 | []=>rfl
 | x::l=>by
  have ih:=allM_splF l
  have e:splF (x::l)=spl x++splF l:=by unfold splF; rw [List.flatMap_cons]
  have e2:allM (spl x++splF l)=allM (spl x)++allM (splF l):=by unfold allM; rw [List.flatMap_append]
  rw [e,e2,ih,show spl x=x.ms.map (fun m=>⟨x.w,x.d,x.n,[m]⟩) from rfl,allM_spl]
  unfold allM; rw [List.flatMap_cons]
theorem allM_perm {a b:List Ct} (h:a.Perm b):(allM a).Perm (allM b):=h.flatMap_right _
theorem mem_splF {l:List Ct} {y:Ct}:y∈splF l ↔ ∃ x∈l,∃ m∈x.ms,y=⟨x.w,x.d,x.n,[m]⟩:=by
 unfold splF spl
 rw [List.mem_flatMap]
 constructor
 ·rintro ⟨x,hx,hy⟩
  obtain ⟨m,hm,rfl⟩:=List.mem_map.1 hy
  exact ⟨x,hx,m,hm,rfl⟩
 ·rintro ⟨x,hx,m,hm,rfl⟩
  exact ⟨x,hx,List.mem_map.2 ⟨m,hm,rfl⟩⟩
theorem mem_allM {l:List Ct} {m:Int}:m∈allM l ↔ ∃ x∈l,m∈x.ms:=by unfold allM; rw [List.mem_flatMap]
def One (x:Ct):Prop:=∃ m,x.ms=[m]
structure SplOk (l S:List Ct):Prop where
 perm:S.Perm (splF l)
 pw:S.Pairwise (fun x y=>behF y x=false)
theorem beh_cases {x y:Ct} (hx:One x) (hy:One y):behF x y=true∨behF y x=true∨x=y:=by
 obtain ⟨xw,xd,xn,xm⟩:=x
 obtain ⟨yw,yd,yn,ym⟩:=y
 obtain ⟨m,hm⟩:=hx
 obtain ⟨k,hk⟩:=hy
 simp only at hm hk
 subst hm hk
 rcases Int.lt_trichotomy xw yw with h | h | h
 ·exact .inl ((beh_iff _ _).2 (.inl h))
 ·rcases Int.lt_trichotomy xd yd with h2 | h2 | h2
  ·exact .inl ((beh_iff _ _).2 (.inr ⟨h,.inl h2⟩))
  ·rcases Int.lt_trichotomy yn xn with h3 | h3 | h3
   ·exact .inl ((beh_iff _ _).2 (.inr ⟨h,.inr ⟨h2,.inl h3⟩⟩))
   ·rcases Int.lt_trichotomy m k with h4 | h4 | h4
    ·exact .inl ((beh_iff _ _).2 (.inr ⟨h,.inr ⟨h2,.inr ⟨h3.symm,h4⟩⟩⟩))
    ·subst h h2 h3 h4; exact .inr (.inr rfl)
    ·exact .inr (.inl ((beh_iff _ _).2 (.inr ⟨h.symm,.inr ⟨h2.symm,.inr ⟨h3,h4⟩⟩⟩)))
   ·exact .inr (.inl ((beh_iff _ _).2 (.inr ⟨h.symm,.inr ⟨h2.symm,.inl h3⟩⟩)))
  ·exact .inr (.inl ((beh_iff _ _).2 (.inr ⟨h.symm,.inl h2⟩)))
 ·exact .inr (.inl ((beh_iff _ _).2 (.inl h)))
section
variable {l S:List Ct}
theorem SplOk.one (h:SplOk l S):∀ x∈S,One x:=fun x hx=>by
 obtain ⟨y,_,m,_,rfl⟩:=mem_splF.1 (h.perm.mem_iff.1 hx)
 exact ⟨m,rfl⟩
theorem SplOk.all (h:SplOk l S):(allM S).Perm (allM l):=by rw [← allM_splF l]; exact allM_perm h.perm
theorem SplOk.nodup (h:SplOk l S) (hg:Good l):(allM S).Nodup:=by
 refine h.all.nodup_iff.2 ?_
 have:=hg.nodup l.length (Nat.le_refl _)
 rwa [memb_all] at this
theorem nodup_ne:∀ {S:List Ct},(allM S).Nodup→(∀ x∈S,One x)→S.Nodup
 | [],_,_=>List.nodup_nil
 | x::S,h,ho=>by
  have e:allM (x::S)=x.ms++allM S:=by unfold allM; rw [List.flatMap_cons]
  rw [e,List.nodup_append] at h
  rw [List.nodup_cons]
  refine ⟨fun hx=>?_,nodup_ne h.2.1 (fun y hy=>ho y (List.mem_cons_of_mem _ hy))⟩
  obtain ⟨m,hm⟩:=ho x (by simp)
  exact h.2.2 m (by rw [hm]; simp) m (mem_allM.2 ⟨x,hx,by rw [hm]; simp⟩) rfl
theorem SplOk.strict (h:SplOk l S) (hg:Good l):S.Pairwise (fun x y=>behF x y=true):=by
 have hn:=nodup_ne (h.nodup hg) h.one
 refine ((List.pairwise_and_iff.2 ⟨h.pw,hn⟩)).imp_of_mem ?_
 intro x y hx hy ⟨h1,h2⟩
 rcases beh_cases (h.one x hx) (h.one y hy) with h3 | h3 | h3
 ·exact h3
 ·rw [h1] at h3; cases h3
 ·exact absurd h3 h2
theorem SplOk.good (h:SplOk l S) (hg:Good l) (hl:S.length≤512):Good S:=by
 have hs:=h.strict hg
 rw [List.pairwise_iff_getElem] at hs
 refine ⟨hl,fun i hi=>?_,fun i hi=>?_,fun i hi m hm hin=>?_⟩
 ·rw [ctAt_get hi]
  obtain ⟨y,hy,m,hm,e⟩:=mem_splF.1 (h.perm.mem_iff.1 (List.getElem_mem hi))
  rw [e]
  have ho:=hg.ok hy
  refine (pc_iff _).2 ⟨ho.w1,ho.w2,ho.d1,ho.d2,ho.n1,ho.n2,Nat.succ_pos _,fun k hk=>?_,rfl⟩
  rw [List.mem_singleton] at hk
  subst hk
  exact ho.off _ hm
 ·have:=hs i (i+1) (by omega) hi (by omega)
  rw [ctAt_get (by omega),ctAt_get hi]; exact this
 ·have hn:=h.nodup hg
  have e:allM S=memb S (i+1)++(S.drop (i+1)).flatMap (·.ms):=by
   unfold allM memb
   rw [← List.flatMap_append,List.take_append_drop]
  rw [e,List.nodup_append,memb_step hi,List.nodup_append] at hn
  exact hn.1.2.2 m hin m hm rfl
theorem splF_len:∀ l:List Ct,(splF l).length=(allM l).length
 | []=>rfl
 | x::l=>by
  have ih:=splF_len l
  unfold splF allM spl at *
  rw [List.flatMap_cons,List.flatMap_cons,List.length_append,List.length_append,ih,List.length_map]
theorem SplOk.len (h:SplOk l S):S.length=(allM l).length:=by rw [h.perm.length_eq,splF_len]
def lastI (l:List Int):Int:=atI l (l.length - 1)
def covF (l:List Ct) (n:Int):Bool:=(l.all fun x=>decide (lastI x.ms<n)) && decide (((allM l).length:Int)=n)
def secF:List (Int × Int)→List Ct→List (Int × Int)
 | out,[]=>out
 | out,x::l=>secF (if (x.w,x.d)∈out then out else out++[(x.w,x.d)]) l
end
end
end Go.Proofs.YtohlpeicpoaanaaGreatDoor
