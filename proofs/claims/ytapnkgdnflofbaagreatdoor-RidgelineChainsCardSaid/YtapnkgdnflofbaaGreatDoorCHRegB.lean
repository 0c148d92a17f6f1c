/-
  Regions that draw their order: whatever leaves all that stood as it was may be taken first, calls too.
-/
import Derived.Test.YtapnkgdnflofbaaGreatDoorCH00
import Derived.StillTail
namespace Go.Proofs.YtapnkgdnflofbaaGreatDoor
open Go.RowKit Kp
theorem Q.refl(w:World):Q w w:=Below.refl _ _
theorem Q.trans{w w1 w2:World}(h:Q w w1)(h1:Q w1 w2):Q w w2:=Below.trans h (h1.mono h.size)
theorem za{w w':World}(h:Q w w'){p:Addr}{v:Value}(hc:w.cell? p=some v):w'.cell? p=some v :=
 (h.cell (World.block_lt_of_cell? w _ hc)).trans hc
section
variable {P:Program} {l:List Oper} {R:Exit→Act→World→Prop} {md:Region.Mode} {n:Nat}
def Walks(P:Program)(md:Region.Mode)(l:List Oper)(R:Exit→Act→World→Prop)(n:Nat):Nat→Array Bool→Act→World→Prop
 | 0,ls,a,w=>Region.seqB md l.toArray (l.toArray.size - n) n ls=true∧∀ w',Q w w'→wpList P l.toArray R (l.drop n) a w'
 | f+1,ls,a,w=>Region.ready md l.toArray ls≠[] ∧
  ∀ i∈Region.ready md l.toArray ls,i<n∧∀ w',Q w w'→wpOp P l.toArray R i (fun a' w''=>Q w' w''∧Walks P md l R n f (ls.setIfInBounds i true) a' w'') a w'
theorem Walks.later:∀ {f:Nat} {ls:Array Bool} {a:Act} {w w':World},Walks P md l R n f ls a w→Q w w'→Walks P md l R n f ls a w'
 | 0,_,_,_,_,h,hq=>⟨h.1,fun _ h1=>h.2 _ (hq.trans h1)⟩
 | _+1,_,_,_,_,h,hq=>⟨h.1,fun i hi=>⟨(h.2 i hi).1,fun _ h1=>(h.2 i hi).2 _ (hq.trans h1)⟩⟩
theorem Walks.any(hn:n≤l.length):∀ {f:Nat} {ls:Array Bool} {a:Act} {w:World},Walks P md l R n f ls a w→wpAny P md l.toArray R (f+(l.toArray.size - n)) ls a w
 | 0,ls,a,w,h=>by
  rw[Nat.zero_add]
  have hd:(l.drop n).length=l.toArray.size - n:=by simp
  have:=wpAny_of_seq (md:=md) (Q':=R) (l.drop n) n ls a w (fun j=>by simp[List.getElem?_drop]) (by rw[hd];exact h.1) (h.2 w (Q.refl w))
  rwa[hd]at this
 | f+1,ls,a,w,h=>by
  rw[show f+1+(l.toArray.size - n)=(f+(l.toArray.size - n))+1 by omega]
  exact⟨fun e=>absurd e h.1,fun i hi=>wpOp_mono (fun _ _ h'=>Walks.any hn h'.2) ((h.2 i hi).2 w (Q.refl w))⟩
def Alike(ops:Array Oper)(o:Oper)(a a':Act):Prop:=execOp a'.eval o=execOp a.eval o∧Region.wanted o (yielded ops a'.tmps)=Region.wanted o (yielded ops a.tmps)
theorem zeY{ops:Array Oper}{j:Nat}{oi oj:Oper}{v:Value}(hj:ops[j]? = some oj)(hap:oi.apart ops oj=true)
  (hsi:∀ cs b,oi.op≠.select cs b)(hsj:∀ cs b,oj.op≠.select cs b)
  (hR:∀ c a w,R (.panic c) (a.put oi.dst v) w→R (.panic c) a w){K:Act→World→Prop}{a:Act}{w:World}
  (h:wpOp P ops R j K (a.put oi.dst v) w):wpOp P ops R j (fun a' w'=>Alike ops oi a a'∧K (a'.put oi.dst v) w') a w:=by
 obtain⟨h1,h2,h3⟩:=Oper.apart_spec hap
 have al:∀ u,Alike ops oi a (a.put oj.dst u):=fun u=>⟨execOp_put oi hsi a oj.dst u h3,wanted_put oi a oj.dst u h3⟩
 have alD:∀ d u,Alike ops oi a (({ a with defers:=d::a.defers }:Act).put oj.dst u):=fun d u=>⟨execOp_put oi hsi { a with defers:=d::a.defers } oj.dst u h3,wanted_put oi { a with defers:=d::a.defers } oj.dst u h3⟩
 unfold wpOp at h ⊢
 simp only[hj]at h ⊢
 rw[wanted_put oj a oi.dst v h1]at h
 by_cases hw:Region.wanted oj (yielded ops a.tmps)=true
 ·rw[if_pos hw]at h ⊢
  rcases h with h | ⟨ha,hl⟩
  ·left
   unfold Oper.wp at h ⊢
   rw[execOp_put oj hsj a oi.dst v h1]at h
   generalize (execOp a.eval oj).run P w=r at h ⊢
   match r,h with
   | .ok (.value u) w',h =>
    simp only[Oper.upon]at h ⊢
    rw[Act.put_comm a v u h2]at h
    exact⟨al u,h⟩
   | .ok .skip w',h =>
    simp only[Oper.upon]at h ⊢
    rw[Act.put_comm a v undef h2]at h
    exact⟨al undef,h⟩
   | .ok (.defer d) w',h =>
    simp only[Oper.upon]at h ⊢
    rw[Act.put_defers,Act.put_comm _ v undef h2]at h
    exact⟨alD d undef,h⟩
   | .ok (.enter f args) w',h =>
    simp only[Oper.upon]at h ⊢
    refine Calls.mono h fun e w'' he=>?_
    match e,he with
    | .returned u,he=>exact⟨al u,by rw[← Act.put_comm a v u h2];exact he⟩
    | .panicked c,he=>exact hR _ _ _ he
    | .outgrown,he=>exact he
   | .ok (.row row args) w',h =>
    simp only[Oper.upon]at h ⊢
    refine Rows.mono h fun u w'' he=>?_
    rw[Act.put_comm a v u h2]at he
    exact⟨al u,he⟩
   | .halt x w',h =>
    cases x <;> simp only[Oper.upon]at h ⊢
    exact hR _ _ _ h
  ·right
   unfold Oper.asks at ha ⊢
   rw[execOp_put oj hsj a oi.dst v h1]at ha
   exact⟨ha,hl⟩
 ·rw[if_neg hw]at h ⊢
  rw[Act.put_comm a v undef h2]at h
  exact⟨al undef,h⟩
def Does(P:Program)(ops:Array Oper)(o:Oper)(v:Value)(a:Act)(w:World):Prop :=
 (Region.wanted o (yielded ops a.tmps)=true∧∀ w',Q w w'→(execOp a.eval o).run P w'=.ok (.value v) w') ∨
 (Region.wanted o (yielded ops a.tmps)=true∧∃ f args,(∀ w',Q w w'→(execOp a.eval o).run P w'=.ok (.enter f args) w')∧∀ w',Q w w'→Calls P f args w' fun e w''=>e=.returned v∧Q w' w'') ∨
 (Region.wanted o (yielded ops a.tmps)=false∧v=undef)
theorem Does.alike{ops:Array Oper}{o:Oper}{v:Value}{a a':Act}{w w':World}(h:Does P ops o v a w)(ha:Alike ops o a a')(hq:Q w w'):Does P ops o v a' w':=by
 unfold Does
 rw[ha.1,ha.2]
 rcases h with⟨h1,h2⟩|⟨h1,f,args,h2,h3⟩ | h
 ·exact .inl ⟨h1,fun w2 h=>h2 w2 (hq.trans h)⟩
 ·exact .inr (.inl ⟨h1,f,args,fun w2 h=>h2 w2 (hq.trans h),fun w2 h=>h3 w2 (hq.trans h)⟩)
 ·exact .inr (.inr h)
theorem Does.wpOp{ops:Array Oper}{i:Nat}{o:Oper}{v:Value}{a:Act}{w w':World}(h:Does P ops o v a w)(hi:ops[i]? = some o)(hq:Q w w'){K:Act→World→Prop}
  (hK:∀ w'',Q w' w''→K (a.put o.dst v) w''):wpOp P ops R i K a w':=by
 unfold Go.wpOp
 simp only[hi]
 rcases h with⟨h1,h2⟩|⟨h1,f,args,h2,h3⟩|⟨h1,rfl⟩
 ·rw[if_pos h1]
  left
  unfold Oper.wp
  rw[h2 w' hq]
  exact hK w' (Q.refl w')
 ·rw[if_pos h1]
  left
  unfold Oper.wp
  rw[h2 w' hq]
  refine(h3 w' hq).mono fun e w'' he=>?_
  obtain⟨rfl,hq'⟩:=he
  exact hK w'' hq'
 ·rw[if_neg (by simp[h1])]
  exact hK w' (Q.refl w')
def zeb(md:Region.Mode)(ops:Array Oper)(n:Nat):Bool:=Region.noSelect ops && (decide (n=ops.size) || (decide (n<ops.size) && Region.sinkB md ops n && Region.chainB md ops n))
theorem zbQ{ops:Array Oper}{ls:Array Bool}(h:zeb md ops n=true)(inv:HeadInv md ops n ls){i:Nat}(hi:i<n)(hr:i∈Region.ready md ops ls):∀ j∈Region.ready md ops ls,j<n:=by
 intro j hj
 unfold zeb at h
 simp only[Bool.and_eq_true,Bool.or_eq_true,decide_eq_true_eq]at h
 rcases h.2 with h | ⟨⟨hn,hs⟩,hc⟩
 ·rw[h]
  obtain⟨_,oj,hoj,_⟩:=mem_ready.1 hj
  exact(Array.getElem?_eq_some_iff.1 hoj).1
 ·rcases Nat.lt_or_ge j n with h | h
  ·exact h
  ·exact absurd hj (tail_waits hs hc hn inv _ i rfl hi (mem_ready.1 hr).1 j h)
theorem zcE{ops:Array Oper}(h:zeb md ops n=true)(j:Nat)(o:Oper)(cs:Array SelectCase)(b:Bool)(ho:ops[j]? = some o):o.op≠.select cs b:=by
 unfold zeb at h
 rw[Bool.and_eq_true]at h
 exact Region.noSelect_spec h.1 j o cs b ho
theorem zcX{i:Nat}{oi:Oper}{v:Value}(hi:l.toArray[i]? = some oi)(hB:zeb md l.toArray n=true)(hin:i<n)
  (hR:∀ c a w,R (.panic c) (a.put oi.dst v) w→R (.panic c) a w) :
  ∀ (f:Nat) (ls:Array Bool) (a:Act) (w:World),HeadInv md l.toArray n ls →
   (∀ j oj,l.toArray[j]? = some oj→j≠i→ls.getD j true=false→(∀ e∈oj.after,Region.binds md e=true→e.on≠i)→oi.apart l.toArray oj=true) →
   i∈Region.ready md l.toArray ls→Does P l.toArray oi v a w →
   Walks P md l R n f (ls.setIfInBounds i true) (a.put oi.dst v) w→Walks P md l R n (f+1) ls a w:=by
 intro f
 induction f with
 | zero =>
  intro ls a w inv _ hr hd H
  refine⟨fun h=>(by rw[h]at hr;cases hr),fun j hj=>⟨zbQ hB inv hin hr j hj,fun w' hq=>?_⟩⟩
  by_cases hji:j=i
  ·subst hji
   exact hd.wpOp hi hq fun w'' hq'=>⟨hq',Walks.later (f:=0) H (hq.trans hq')⟩
  ·have h1:=zbQ hB inv hin hr j hj
   have h2:=seqB_ready H.1 j (ready_mono hj hji)
   omega
 | succ f ih =>
  intro ls a w inv hf hr hd H
  refine⟨fun h=>(by rw[h]at hr;cases hr),fun j hj=>?_⟩
  have hjn:=zbQ hB inv hin hr j hj
  refine⟨hjn,fun w' hq=>?_⟩
  by_cases hji:j=i
  ·subst hji
   exact hd.wpOp hi hq fun w'' hq'=>⟨hq',H.later (hq.trans hq')⟩
  ·have h1:=(H.2 j (ready_mono hj hji)).2 w' hq
   obtain⟨hjun,oj,hoj,hall⟩:=mem_ready.1 hj
   have hno:∀ e∈oj.after,Region.binds md e=true→e.on≠i:=fun e he hb heq=>by
    have h1:=hall e he hb
    rw[heq,getD_both (mem_ready.1 hr).1]at h1
    cases h1
   have h2:=zeY hoj (hf j oj hoj hji hjun hno) (fun cs b=>zcE hB i oi cs b hi) (fun cs b=>zcE hB j oj cs b hoj) hR h1
   have hf':∀ k ok,l.toArray[k]? = some ok→k≠i→(ls.setIfInBounds j true).getD k true=false →
     (∀ e∈ok.after,Region.binds md e=true→e.on≠i)→oi.apart l.toArray ok=true:=fun k ok hk hki hun hn=>by
    by_cases hjk:j=k
    ·subst hjk;exact hf j ok hk hki hjun hn
    ·rw[getD_set_ne true hjk]at hun
     exact hf k ok hk hki hun hn
   refine wpOp_mono (fun a' w'' h3=>⟨h3.2.1,ih (ls.setIfInBounds j true) a' w'' (inv.set hj hjn) hf' (ready_mono hr (Ne.symm hji)) (hd.alike h3.1 (hq.trans h3.2.1)) ?_⟩) h2
   rw[Array.setIfInBounds_comm _ _ hji]
   exact h3.2.2
def zl(P:Program)(md:Region.Mode)(l:List Oper)(R:Exit→Act→World→Prop)(n f:Nat)(ls:Array Bool)(a:Act)(w:World):Prop :=
 zeb md l.toArray n=true→HeadInv md l.toArray n ls→Walks P md l R n f ls a w
theorem zn(n:Nat){id:Nat}{a:Act}{w:World}(hm:P.follows .mixedOrders=true)(hB:zeb .any l.toArray n=true)(hn:decide (n≤l.length)=true)
  (h:zl P .any l R n n (Array.replicate l.toArray.size false) a w.drew):(Code.region id l.toArray true).wp P R a w:=by
 have hn':n≤l.length:=by simpa using hn
 have inv0:HeadInv .any l.toArray n (Array.replicate l.toArray.size false) :=
  ⟨by simp,fun j oj _ hl=>(by rw[getD_replicate_false]at hl;cases hl),fun t _ ht=>getD_in (by simpa using ht) (getD_replicate_false _ _)⟩
 refine wp_region_any hm ?_
 have:=Walks.any hn' (h hB inv0)
 rwa[show n+(l.toArray.size - n)=l.toArray.size by simp;omega]at this
theorem zbV{i:Nat}{oi:Oper}(hi:l[i]? = some oi):l.toArray[i]? = some oi:=by simpa using hi
theorem zT{i:Nat}{oi:Oper}{v:Value}{f:Nat}{ls:Array Bool}{a:Act}{w:World}(hi:l[i]? = some oi)(hin:decide (i<n)=true)
  (hf:Region.free md l.toArray ls i=true)(hr:(Region.ready md l.toArray ls).contains i=true)
  (hR:∀ c a w,R (.panic c) (a.put oi.dst v) w→R (.panic c) a w)(hd:Does P l.toArray oi v a w)
  (h:zl P md l R n f (ls.setIfInBounds i true) (a.put oi.dst v) w):zl P md l R n (f+1) ls a w:=fun hB inv=>by
 have hr':i∈Region.ready md l.toArray ls:=by simpa using hr
 have hin':i<n:=by simpa using hin
 exact zcX (zbV hi) hB hin' hR f ls a w inv (Region.free_spec (zbV hi) hf) hr' hd (h hB (inv.set hr' hin'))
theorem zS{i:Nat}{oi:Oper}{v:Value}{f:Nat}{ls:Array Bool}{a:Act}{w:World}(hi:l[i]? = some oi)(hin:decide (i<n)=true)
  (hf:Region.free md l.toArray ls i=true)(hr:(Region.ready md l.toArray ls).contains i=true)
  (hR:∀ c a w,R (.panic c) (a.put oi.dst v) w→R (.panic c) a w)(hw:Region.wanted oi (yielded l.toArray a.tmps)=true)
  (hx:∀ w',Q w w'→(execOp a.eval oi).run P w'=.ok (.value v) w')
  (h:zl P md l R n f (ls.setIfInBounds i true) (a.put oi.dst v) w):zl P md l R n (f+1) ls a w :=
 zT hi hin hf hr hR (.inl ⟨hw,hx⟩) h
theorem zbl{i:Nat}{oi:Oper}{f:Nat}{ls:Array Bool}{a:Act}{w:World}(hi:l[i]? = some oi)(hin:decide (i<n)=true)
  (hf:Region.free md l.toArray ls i=true)(hr:(Region.ready md l.toArray ls).contains i=true)
  (hR:∀ c a w,R (.panic c) (a.put oi.dst undef) w→R (.panic c) a w)(hw:Region.wanted oi (yielded l.toArray a.tmps)=false)
  (h:zl P md l R n f (ls.setIfInBounds i true) (a.put oi.dst undef) w):zl P md l R n (f+1) ls a w :=
 zT hi hin hf hr hR (.inr (.inr ⟨hw,rfl⟩)) h
theorem svp(i:Nat){oi:Oper}{v:Value}{f:Nat}{ls:Array Bool}{a a':Act}{w:World}
  (h:zl P md l R n f (ls.setIfInBounds i true) a' w)(hi:l[i]? = some oi:=by exact rfl)(hin:decide (i<n)=true:=by exact rfl)
  (hf:Region.free md l.toArray ls i=true:=by kernel_rfl)(hr:(Region.ready md l.toArray ls).contains i=true:=by kernel_rfl)
  (hw:Region.wanted oi (yielded l.toArray a.tmps)=true:=by rfl)
  (hx:∀ w',Q w w'→(execOp a.eval oi).run P w'=.ok (.value v) w':=by intro w' hq;go_simp;try with_reducible rfl)
  (hR:∀ c a w,R (.panic c) (a.put oi.dst v) w→R (.panic c) a w:=by exact fun _ _ _ h=>h)
  (ha:a.put oi.dst v=a':=by simp only[Act.put,zs1,zs2,zs3];exact rfl):zl P md l R n (f+1) ls a w :=
 zS hi hin hf hr hR hw hx (ha ▸ h)
theorem svq(i:Nat){oi:Oper}{v:Value}{f:Nat}{ls:Array Bool}{a a':Act}{w:World}(hi:l[i]? = some oi)
  (hx:∀ w',Q w w'→(execOp a.eval oi).run P w'=.ok (.value v) w')
  (h:zl P md l R n f (ls.setIfInBounds i true) a' w)(hin:decide (i<n)=true:=by exact rfl)
  (hf:Region.free md l.toArray ls i=true:=by kernel_rfl)(hr:(Region.ready md l.toArray ls).contains i=true:=by kernel_rfl)
  (hw:Region.wanted oi (yielded l.toArray a.tmps)=true:=by rfl)
  (hR:∀ c a w,R (.panic c) (a.put oi.dst v) w→R (.panic c) a w:=by exact fun _ _ _ h=>h)
  (ha:a.put oi.dst v=a':=by simp only[Act.put,zs1,zs2,zs3];exact rfl):zl P md l R n (f+1) ls a w :=
 zS hi hin hf hr hR hw hx (ha ▸ h)
theorem svi(i:Nat){oi:Oper}{f:Nat}{ls:Array Bool}{a a':Act}{w:World}
  (h:zl P md l R n f (ls.setIfInBounds i true) a' w)(hi:l[i]? = some oi:=by exact rfl)(hin:decide (i<n)=true:=by exact rfl)
  (hf:Region.free md l.toArray ls i=true:=by kernel_rfl)(hr:(Region.ready md l.toArray ls).contains i=true:=by kernel_rfl)
  (hw:Region.wanted oi (yielded l.toArray a.tmps)=false:=by rfl)
  (hR:∀ c a w,R (.panic c) (a.put oi.dst undef) w→R (.panic c) a w:=by exact fun _ _ _ h=>h)
  (ha:a.put oi.dst undef=a':=by simp only[Act.put,zs1,zs2,zs3];exact rfl):zl P md l R n (f+1) ls a w :=
 zbl hi hin hf hr hR hw (ha ▸ h)
theorem zk{i:Nat}{oi:Oper}{v:Value}{n f:Nat}{ls:Array Bool}{a:Act}{w:World}{g:FuncId}{args:Array Value}(hi:l[i]? = some oi)(hin:decide (i<n)=true)
  (hf:Region.free md l.toArray ls i=true)(hr:(Region.ready md l.toArray ls).contains i=true)
  (hR:∀ c a w,R (.panic c) (a.put oi.dst v) w→R (.panic c) a w)(hw:Region.wanted oi (yielded l.toArray a.tmps)=true)
  (hx:∀ w',Q w w'→(execOp a.eval oi).run P w'=.ok (.enter g args) w')
  (hc:∀ w',Q w w'→Calls P g args w' fun e w''=>e=.returned v∧Q w' w'')
  (h:zl P md l R n f (ls.setIfInBounds i true) (a.put oi.dst v) w):zl P md l R n (f+1) ls a w :=
 zT hi hin hf hr hR (.inr (.inl ⟨hw,g,args,hx,hc⟩)) h
theorem zad{i:Nat}{oi:Oper}{f:Nat}{ls:Array Bool}{a:Act}{w:World}(hi:l[i]? = some oi)(hin:decide (i<n)=true)
  (hr:Region.ready md l.toArray ls=[i])(hw:Region.wanted oi (yielded l.toArray a.tmps)=true)
  (h:∀ w',Q w w'→∀ K:Act→World→Prop,(∀ v w'',Q w' w''→zl P md l R n f (ls.setIfInBounds i true) (a.put oi.dst v) w''→K (a.put oi.dst v) w'')→Oper.wp P oi a w' K R):zl P md l R n (f+1) ls a w:=fun hB inv=>by
 have hr':i∈Region.ready md l.toArray ls:=by rw[hr];simp
 have hin':i<n:=by simpa using hin
 refine⟨fun h=>(by rw[h]at hr;cases hr),fun j hj=>?_⟩
 rw[hr]at hj
 obtain rfl:j=i:=by simpa using hj
 refine⟨hin',fun w' hq=>?_⟩
 unfold wpOp
 simp only[zbV hi]
 rw[if_pos hw]
 exact .inl (h w' hq _ fun v w'' hq' hS=>⟨hq',hS hB (inv.set hr' hin')⟩)
theorem zaI{i:Nat}{oi:Oper}{f:Nat}{ls:Array Bool}{a:Act}{w:World}(o:Obj)(hi:l[i]? = some oi)(hin:decide (i<n)=true)
  (hr:Region.ready md l.toArray ls=[i])(hw:Region.wanted oi (yielded l.toArray a.tmps)=true)
  (hx:∀ w',Q w w'→(execOp a.eval oi).run P w'=.ok (.value (.pointer (some ⟨w'.heap.size,0,none⟩))) (w'.alloc o))
  (h:∀ w',Q w w'→zl P md l R n f (ls.setIfInBounds i true) (a.put oi.dst (.pointer (some ⟨w'.heap.size,0,none⟩))) (w'.alloc o)):zl P md l R n (f+1) ls a w :=
 zad hi hin hr hw fun w' hq K hK=>by
  unfold Oper.wp
  rw[hx w' hq]
  exact hK _ _ ((Below.refl _ _).alloc (Nat.le_refl _) _) (h w' hq)
theorem zaa{i:Nat}{oi:Oper}{n f:Nat}{ls:Array Bool}{a:Act}{w:World}{g:FuncId}{args:Array Value}(hi:l[i]? = some oi)(hin:decide (i<n)=true)
  (hr:Region.ready md l.toArray ls=[i])(hw:Region.wanted oi (yielded l.toArray a.tmps)=true)
  (hx:∀ w',Q w w'→(execOp a.eval oi).run P w'=.ok (.enter g args) w')
  (hc:∀ w',Q w w'→Calls P g args w' fun e w''=>∃ v,e=.returned v∧Q w' w''∧zl P md l R n f (ls.setIfInBounds i true) (a.put oi.dst v) w''):zl P md l R n (f+1) ls a w :=
 zad hi hin hr hw fun w' hq K hK=>by
  unfold Oper.wp
  rw[hx w' hq]
  refine(hc w' hq).mono fun e w'' he=>?_
  obtain⟨v,rfl,h1,h2⟩:=he
  exact hK v w'' h1 h2
theorem zh{ls:Array Bool}{a:Act}{w:World}(hB:Region.seqB md l.toArray (l.toArray.size - n) n ls=true)(h:∀ w',Q w w'→wpList P l.toArray R (l.drop n) a w'):zl P md l R n 0 ls a w :=
 fun _ _=>⟨hB,h⟩
end
end Go.Proofs.YtapnkgdnflofbaaGreatDoor
