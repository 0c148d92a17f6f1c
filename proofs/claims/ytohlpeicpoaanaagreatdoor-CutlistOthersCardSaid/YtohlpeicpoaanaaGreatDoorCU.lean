/-
  What the texts behind it need besides.; Regions that draw their order and store late: what is taken first holds in whatever world, what is left goes on from the world as it is.; The text of pieces: no program.
-/
import Derived.Test.YtohlpeicpoaanaaGreatDoorMA
import Derived.Test.YtohlpeicpoaanaaGreatDoorCA
import Derived.Test.YtohlpeicpoaanaaGreatDoorEnv
import Derived.Test.YtohlpeicpoaanaaGreatDoorWA
import Derived.Test.YtohlpeicpoaanaaGreatDoorBlk
import Derived.Test.YtohlpeicpoaanaaGreatDoorRegB
import Derived.Test.YtohlpeicpoaanaaGreatDoorBI1
import Derived.Test.YtohlpeicpoaanaaGreatDoorRow
import Derived.Test.YtohlpeicpoaanaaGreatDoorCB
import Derived.Test.YtohlpeicpoaanaaGreatDoorCC
import Derived.Test.YtohlpeicpoaanaaGreatDoorCE
import Derived.Test.YtohlpeicpoaanaaGreatDoorSortC
import Derived.Test.YtohlpeicpoaanaaGreatDoorCL
import Derived.Test.YtohlpeicpoaanaaGreatDoorCD
import Derived.Test.YtohlpeicpoaanaaGreatDoorShelf
import Derived.Test.YtohlpeicpoaanaaGreatDoorLib
import Derived.Test.YtohlpeicpoaanaaGreatDoorBL
import Derived.Test.YtohlpeicpoaanaaGreatDoorBuildB
import Derived.Test.YtohlpeicpoaanaaGreatDoorShelfD
import Derived.Test.YtohlpeicpoaanaaGreatDoorBM
import Derived.Test.YtohlpeicpoaanaaGreatDoorBN
import Derived.Test.YtohlpeicpoaanaaGreatDoorWC
import Derived.Test.YtohlpeicpoaanaaGreatDoorBO
import Derived.Test.YtohlpeicpoaanaaGreatDoorBP
import Derived.Test.YtohlpeicpoaanaaGreatDoorBQ
import Derived.Test.YtohlpeicpoaanaaGreatDoorBR
import Derived.Test.YtohlpeicpoaanaaGreatDoorRootM
import Derived.Test.YtohlpeicpoaanaaGreatDoorWD
import Derived.Test.YtohlpeicpoaanaaGreatDoorWF
import Derived.Test.YtohlpeicpoaanaaGreatDoorWG
import Derived.Test.YtohlpeicpoaanaaGreatDoorWI
import Derived.Test.YtohlpeicpoaanaaGreatDoorWM
import Derived.Test.YtohlpeicpoaanaaGreatDoorBS
import Derived.Test.YtohlpeicpoaanaaGreatDoorSD
import Derived.Test.YtohlpeicpoaanaaGreatDoorSQ
import Derived.Test.YtohlpeicpoaanaaGreatDoorSU1
import Derived.Test.YtohlpeicpoaanaaGreatDoorSU2
import Derived.Test.YtohlpeicpoaanaaGreatDoorVZ1
import Derived.Test.YtohlpeicpoaanaaGreatDoorVZ2
import Derived.Test.YtohlpeicpoaanaaGreatDoorVZ3
import Derived.Test.YtohlpeicpoaanaaGreatDoorCH
import Derived.Test.YtohlpeicpoaanaaGreatDoorCK
import Derived.Test.YtohlpeicpoaanaaGreatDoorCM
import Derived.Test.YtohlpeicpoaanaaGreatDoorCF
import Derived.Test.YtohlpeicpoaanaaGreatDoorFOW
import Derived.Test.YtohlpeicpoaanaaGreatDoorCQ
import Derived.Test.YtohlpeicpoaanaaGreatDoorCR
import Derived.Lib.AtoiAll
namespace Kp
open Go.Lib (decDigits itoa nDigits)
def bef (c:UInt8) (s:Str):Str:=s.takeWhile (·≠c)
def aft (c:UInt8) (s:Str):Str:=(s.dropWhile (·≠c)).tail
def has (c:UInt8) (s:Str):Bool:=decide (c∈s)
theorem bef_app {c:UInt8} {x y:Str} (h:¬ c∈x):bef c (x++c::y)=x :=
 takeWhile_stop _ _ _ (by simp) _ (fun z hz=>by simp only [ne_eq,decide_eq_true_eq]; intro e; subst e; exact h hz)
theorem aft_app {c:UInt8} {x y:Str} (h:¬ c∈x):aft c (x++c::y)=y:=by
 unfold aft
 rw [dropWhile_stop _ c y (by simp) x (fun z hz=>by simp only [ne_eq,decide_eq_true_eq]; intro e; subst e; exact h hz)]; rfl
theorem has_app {c:UInt8} {x y:Str}:has c (x++c::y)=true:=by simp [has]
theorem app_has {c:UInt8}:∀ (s:Str),has c s=true→s=bef c s++c::aft c s
 | [],h=>by simp [has] at h
 | b::r,h=>by
  by_cases e:b=c
  ·subst e; simp [bef,aft]
  ·have hr:has c r=true:=by
    simp only [has,decide_eq_true_eq,List.mem_cons] at h ⊢
    rcases h with h | h
    ·exact absurd h.symm e
    ·exact h
   have ih:=app_has r hr
   have e1:bef c (b::r)=b::bef c r:=by unfold bef; rw [List.takeWhile_cons_of_pos (by simpa using e)]
   have e2:aft c (b::r)=aft c r:=by unfold aft; rw [List.dropWhile_cons_of_pos (by simpa using e)]
   rw [e1,e2,List.cons_append,← ih]
theorem has_false {c:UInt8} {s:Str} (h:has c s=false):bef c s=s∧aft c s=[]:=by
 have hm:¬ c∈s:=by simpa [has] using h
 have e:∀ x∈s,decide (x≠c)=true:=fun z hz=>by simp only [ne_eq,decide_eq_true_eq]; intro e; subst e; exact hm hz
 refine ⟨takeWhile_all _ _ e,?_⟩
 unfold aft; rw [(dropWhile_nil _ _).2 e]; rfl
theorem aft_len {c:UInt8} (s:Str):(aft c s).length≤s.length:=by
 unfold aft; rw [List.length_tail]; have:=(List.dropWhile_sublist (p:=fun x=>decide (x≠c)) (l:=s)).length_le; omega
theorem bef_len {c:UInt8} (s:Str):(bef c s).length≤s.length:=(List.takeWhile_sublist _).length_le
theorem aft_lt {c:UInt8} (s:Str) (h:has c s=true):(aft c s).length<s.length:=by
 have:=congrArg List.length (app_has s h); simp only [List.length_append,List.length_cons] at this; omega
theorem cut_one (c:UInt8) (s:Str):Go.Lib.cut s [c]=(bef c s,aft c s,has c s):=by
 unfold Go.Lib.cut
 obtain ⟨h1,h2⟩:=index_one s c
 cases hb:has c s with
 | true =>
  have h:c∈s:=by simpa [has] using hb
  rw [h1 h,if_pos (by omega),Int.toNat_natCast]
  have e:=app_has s hb
  have hl:(s.takeWhile (·≠c)).length=(bef c s).length:=rfl
  rw [hl]
  have e1:s.take (bef c s).length=bef c s:=by
   have:=List.take_left (l₁:=bef c s) (l₂:=c::aft c s)
   rw [← e] at this; exact this
  have e2:s.drop ((bef c s).length+1)=aft c s:=by
   have:=List.drop_left (l₁:=bef c s++[c]) (l₂:=aft c s)
   rw [List.append_assoc,List.singleton_append,← e,List.length_append] at this
   exact this
  rw [e1,show [c].length=1 from rfl,e2]
 | false =>
  have h:¬ c∈s:=by simpa [has] using hb
  rw [h2 h,if_neg (by omega),(has_false hb).1,(has_false hb).2]
theorem dec_plain (n:Nat) (c:UInt8) (h:isDig c=false):¬ c∈decDigits n:=fun hm=>by rw [decDigits_dig n c hm] at h; cases h
theorem itoa_plain {z:Int} (h0:0≤z) (c:UInt8) (h:isDig c=false):¬ c∈itoa z:=by rw [itoa_nonneg h0]; exact dec_plain _ _ h
end Kp
namespace Go.Proofs.YtohlpeicpoaanaaGreatDoor
section
open Go.RowKit Kp
section
variable {α:Type} {k:Nat} {enc:α→List Value}
theorem rowOf_len (hk:∀ x,(enc x).length=k):∀ l:List α,(rowOf enc l).length=l.length*k
 | []=>by simp [rowOf]
 | x::l=>by
  have ih:=rowOf_len hk l
  unfold rowOf at *
  rw [List.flatMap_cons,List.length_append,hk,ih,List.length_cons,Nat.succ_mul]; omega
end
end
section
open Go.RowKit Kp
theorem builderAt_keep {T e:TypeId} {B b:Nat} {p:Value} {bs:List Value} {w w':World} (h:Lib.BuilderAt T e B b p bs w) (hb:Below w.heap.size w w'):Lib.BuilderAt T e B b p bs w':=by
 have hl:=h.lt
 obtain ⟨hB,v,hc,hown,hne⟩:=h
 exact ⟨hB,v,(hb.block b hl).trans hc,ownsRow_keep hown hb,hne⟩
theorem isBuilder_keep {T e:TypeId} {B b:Nat} {bs:List Value} {w w':World} (h:Lib.IsBuilder T e B b bs w) (hb:Below w.heap.size w w'):Lib.IsBuilder T e B b bs w' :=
 h.elim (fun x=>.inl (builderAt_keep x hb)) (fun x=>.inr (builderAt_keep x hb))
end
section
open Go.RowKit Go Kp
structure QRel extends Rel where
 q:∀ {a c:World},Q a c→r a c
def lowR (b:Nat):QRel where
 r:=fun a c=>b≤a.heap.size→Below b a c
 refl:=fun _ _=>Below.refl _ _
 trans:=fun h k hb=>Below.trans (h hb) (k (Nat.le_trans hb (h hb).size))
 q:=fun h hb=>h.mono hb
namespace RF
section
variable {ρ:QRel} {P:Program} {l:List Oper} {R:Exit→Act→World→Prop} {md:Region.Mode} {n:Nat}
def Walks (ρ:QRel) (P:Program) (md:Region.Mode) (l:List Oper) (R:Exit→Act→World→Prop) (n:Nat):Nat→Array Bool→Act→World→Prop
 | 0,ls,a,w=>Region.seqB md l.toArray (l.toArray.size - n) n ls=true∧∀ w',Q w w'→wpList P l.toArray R (l.drop n) a w'
 | f+1,ls,a,w=>Region.ready md l.toArray ls≠[] ∧
  ∀ i∈Region.ready md l.toArray ls,i<n∧∀ w',Q w w'→wpOp P l.toArray R i (fun a' w''=>ρ.r w' w''∧Walks ρ P md l R n f (ls.setIfInBounds i true) a' w'') a w'
theorem Walks.later:∀ {f:Nat} {ls:Array Bool} {a:Act} {w w':World},Walks ρ P md l R n f ls a w→Q w w'→Walks ρ P md l R n f ls a w'
 | 0,_,_,_,_,h,hq=>⟨h.1,fun _ h1=>h.2 _ (Q.trans hq h1)⟩
 | _+1,_,_,_,_,h,hq=>⟨h.1,fun i hi=>⟨(h.2 i hi).1,fun _ h1=>(h.2 i hi).2 _ (Q.trans hq h1)⟩⟩
theorem Walks.any (hn:n≤l.length):∀ {f:Nat} {ls:Array Bool} {a:Act} {w:World},Walks ρ P md l R n f ls a w→wpAny P md l.toArray R (f+(l.toArray.size - n)) ls a w
 | 0,ls,a,w,h=>by
  rw [Nat.zero_add]
  have hd:(l.drop n).length=l.toArray.size - n:=by simp
  have:=wpAny_of_seq (md:=md) (Q':=R) (l.drop n) n ls a w (fun j=>by simp [List.getElem?_drop]) (by rw [hd]; exact h.1) (h.2 w (Q.refl w))
  rwa [hd] at this
 | f+1,ls,a,w,h=>by
  rw [show f+1+(l.toArray.size - n)=(f+(l.toArray.size - n))+1 by omega]
  exact ⟨fun e=>absurd e h.1,fun i hi=>wpOp_mono (fun _ _ h'=>Walks.any hn h'.2) ((h.2 i hi).2 w (Q.refl w))⟩
def Does (ρ:QRel) (P:Program) (ops:Array Oper) (o:Oper) (v:Value) (a:Act) (w:World):Prop :=
 (Region.wanted o (yielded ops a.tmps)=true∧∀ w',ρ.r w w'→(execOp a.eval o).run P w'=.ok (.value v) w') ∨
 (Region.wanted o (yielded ops a.tmps)=true∧∃ f args,(∀ w',ρ.r w w'→(execOp a.eval o).run P w'=.ok (.enter f args) w')∧∀ w',ρ.r w w'→Calls P f args w' fun e w''=>e=.returned v∧Q w' w'') ∨
 (Region.wanted o (yielded ops a.tmps)=false∧v=undef)
theorem Does.alike {ops:Array Oper} {o:Oper} {v:Value} {a a':Act} {w w':World} (h:Does ρ P ops o v a w) (ha:Alike ops o a a') (hq:ρ.r w w'):Does ρ P ops o v a' w':=by
 unfold Does
 rw [ha.1,ha.2]
 rcases h with ⟨h1,h2⟩ | ⟨h1,f,args,h2,h3⟩ | h
 ·exact .inl ⟨h1,fun w2 h=>h2 w2 (ρ.trans hq h)⟩
 ·exact .inr (.inl ⟨h1,f,args,fun w2 h=>h2 w2 (ρ.trans hq h),fun w2 h=>h3 w2 (ρ.trans hq h)⟩)
 ·exact .inr (.inr h)
theorem Does.wpOp {ops:Array Oper} {i:Nat} {o:Oper} {v:Value} {a:Act} {w w':World} (h:Does ρ P ops o v a w) (hi:ops[i]? = some o) (hq:ρ.r w w') {K:Act→World→Prop}
  (hK:∀ w'',Q w' w''→K (a.put o.dst v) w''):wpOp P ops R i K a w':=by
 unfold Go.wpOp
 simp only [hi]
 rcases h with ⟨h1,h2⟩ | ⟨h1,f,args,h2,h3⟩ | ⟨h1,rfl⟩
 ·rw [if_pos h1]
  left
  unfold Oper.wp
  rw [h2 w' hq]
  exact hK w' (Q.refl w')
 ·rw [if_pos h1]
  left
  unfold Oper.wp
  rw [h2 w' hq]
  refine (h3 w' hq).mono fun e w'' he=>?_
  obtain ⟨rfl,hq'⟩:=he
  exact hK w'' hq'
 ·rw [if_neg (by simp [h1])]
  exact hK w' (Q.refl w')
theorem walks_first {i:Nat} {oi:Oper} {v:Value} (hi:l.toArray[i]? = some oi) (hB:headB md l.toArray n=true) (hin:i<n)
  (hR:∀ c a w,R (.panic c) (a.put oi.dst v) w→R (.panic c) a w) :
  ∀ (f:Nat) (ls:Array Bool) (a:Act) (w:World),HeadInv md l.toArray n ls →
   (∀ j oj,l.toArray[j]? = some oj→j≠i→ls.getD j true=false→(∀ e∈oj.after,Region.binds md e=true→e.on≠i)→oi.apart l.toArray oj=true) →
   i∈Region.ready md l.toArray ls→Does ρ P l.toArray oi v a w →
   Walks ρ P md l R n f (ls.setIfInBounds i true) (a.put oi.dst v) w→Walks ρ P md l R n (f+1) ls a w:=by
 intro f
 induction f with
 | zero =>
  intro ls a w inv _ hr hd H
  refine ⟨fun h=>(by rw [h] at hr; cases hr),fun j hj=>⟨headB_lt hB inv hin hr j hj,fun w' hq=>?_⟩⟩
  by_cases hji:j=i
  ·subst hji
   exact hd.wpOp hi (ρ.q hq) fun w'' hq'=>⟨ρ.q hq',Walks.later (f:=0) H (Q.trans hq hq')⟩
  ·have h1:=headB_lt hB inv hin hr j hj
   have h2:=seqB_ready H.1 j (ready_mono hj hji)
   omega
 | succ f ih =>
  intro ls a w inv hf hr hd H
  refine ⟨fun h=>(by rw [h] at hr; cases hr),fun j hj=>?_⟩
  have hjn:=headB_lt hB inv hin hr j hj
  refine ⟨hjn,fun w' hq=>?_⟩
  by_cases hji:j=i
  ·subst hji
   exact hd.wpOp hi (ρ.q hq) fun w'' hq'=>⟨ρ.q hq',H.later (Q.trans hq hq')⟩
  ·have h1:=(H.2 j (ready_mono hj hji)).2 w' hq
   obtain ⟨hjun,oj,hoj,hall⟩:=mem_ready.1 hj
   have hno:∀ e∈oj.after,Region.binds md e=true→e.on≠i:=fun e he hb heq=>by
    have h1:=hall e he hb
    rw [heq,getD_both (mem_ready.1 hr).1] at h1
    cases h1
   have h2:=wpOp_alike hoj (hf j oj hoj hji hjun hno) (fun cs b=>headB_sel hB i oi cs b hi) (fun cs b=>headB_sel hB j oj cs b hoj) hR h1
   have hf':∀ k ok,l.toArray[k]? = some ok→k≠i→(ls.setIfInBounds j true).getD k true=false →
     (∀ e∈ok.after,Region.binds md e=true→e.on≠i)→oi.apart l.toArray ok=true:=fun k ok hk hki hun hn=>by
    by_cases hjk:j=k
    ·subst hjk; exact hf j ok hk hki hjun hn
    ·rw [getD_set_ne true hjk] at hun
     exact hf k ok hk hki hun hn
   refine wpOp_mono (fun a' w'' h3=>⟨h3.2.1,ih (ls.setIfInBounds j true) a' w'' (inv.set hj hjn) hf' (ready_mono hr (Ne.symm hji)) (hd.alike h3.1 (ρ.trans (ρ.q hq) h3.2.1)) ?_⟩) h2
   rw [Array.setIfInBounds_comm _ _ hji]
   exact h3.2.2
def Steadily (ρ:QRel) (P:Program) (md:Region.Mode) (l:List Oper) (R:Exit→Act→World→Prop) (n f:Nat) (ls:Array Bool) (a:Act) (w:World):Prop :=
 headB md l.toArray n=true→HeadInv md l.toArray n ls→Walks ρ P md l R n f ls a w
theorem wp_steadily (n:Nat) {id:Nat} {a:Act} {w:World} (hm:P.follows .mixedOrders=true) (hB:headB .any l.toArray n=true) (hn:decide (n≤l.length)=true)
  (h:Steadily ρ P .any l R n n (Array.replicate l.toArray.size false) a w.drew):(Code.region id l.toArray true).wp P R a w:=by
 have hn':n≤l.length:=by simpa using hn
 have inv0:HeadInv .any l.toArray n (Array.replicate l.toArray.size false) :=
  ⟨by simp,fun j oj _ hl=>(by rw [getD_replicate_false] at hl; cases hl),fun t _ ht=>getD_in (by simpa using ht) (getD_replicate_false _ _)⟩
 refine wp_region_any hm ?_
 have:=Walks.any hn' (h hB inv0)
 rwa [show n+(l.toArray.size - n)=l.toArray.size by simp; omega] at this
theorem steadily_first {i:Nat} {oi:Oper} {v:Value} {f:Nat} {ls:Array Bool} {a:Act} {w:World} (hi:l[i]? = some oi) (hin:decide (i<n)=true)
  (hf:Region.free md l.toArray ls i=true) (hr:(Region.ready md l.toArray ls).contains i=true)
  (hR:∀ c a w,R (.panic c) (a.put oi.dst v) w→R (.panic c) a w) (hd:Does ρ P l.toArray oi v a w)
  (h:Steadily ρ P md l R n f (ls.setIfInBounds i true) (a.put oi.dst v) w):Steadily ρ P md l R n (f+1) ls a w:=fun hB inv=>by
 have hr':i∈Region.ready md l.toArray ls:=by simpa using hr
 have hin':i<n:=by simpa using hin
 exact walks_first (at_list hi) hB hin' hR f ls a w inv (Region.free_spec (at_list hi) hf) hr' hd (h hB (inv.set hr' hin'))
theorem steadily_value {i:Nat} {oi:Oper} {v:Value} {f:Nat} {ls:Array Bool} {a:Act} {w:World} (hi:l[i]? = some oi) (hin:decide (i<n)=true)
  (hf:Region.free md l.toArray ls i=true) (hr:(Region.ready md l.toArray ls).contains i=true)
  (hR:∀ c a w,R (.panic c) (a.put oi.dst v) w→R (.panic c) a w) (hw:Region.wanted oi (yielded l.toArray a.tmps)=true)
  (hx:∀ w',ρ.r w w'→(execOp a.eval oi).run P w'=.ok (.value v) w')
  (h:Steadily ρ P md l R n f (ls.setIfInBounds i true) (a.put oi.dst v) w):Steadily ρ P md l R n (f+1) ls a w :=
 steadily_first hi hin hf hr hR (.inl ⟨hw,hx⟩) h
theorem svq (i:Nat) {oi:Oper} {v:Value} {f:Nat} {ls:Array Bool} {a a':Act} {w:World} (hi:l[i]?=some oi)
 (hx:∀ w',ρ.r w w'→(execOp a.eval oi).run P w'=.ok (.value v) w')
 (h:Steadily ρ P md l R n f (ls.setIfInBounds i true) a' w) (hin:decide (i<n)=true:=by exact rfl)
 (hf:Region.free md l.toArray ls i=true:=by kernel_rfl) (hr:(Region.ready md l.toArray ls).contains i=true:=by kernel_rfl)
 (hw:Region.wanted oi (yielded l.toArray a.tmps)=true:=by rfl)
 (hR:∀ c a w,R (.panic c) (a.put oi.dst v) w→R (.panic c) a w:=by exact fun _ _ _ h=>h)
 (ha:a.put oi.dst v=a':=by simp only [Act.put,zs1,zs2,zs3]; exact rfl):Steadily ρ P md l R n (f+1) ls a w:=
 steadily_value hi hin hf hr hR hw hx (ha ▸ h)
theorem steadily_one {i:Nat} {oi:Oper} {f:Nat} {ls:Array Bool} {a:Act} {w:World} (hi:l[i]? = some oi) (hin:decide (i<n)=true)
  (hr:Region.ready md l.toArray ls=[i]) (hw:Region.wanted oi (yielded l.toArray a.tmps)=true)
  (h:∀ w',Q w w'→∀ K:Act→World→Prop,(∀ v w'',ρ.r w' w''→Steadily ρ P md l R n f (ls.setIfInBounds i true) (a.put oi.dst v) w''→K (a.put oi.dst v) w'')→Oper.wp P oi a w' K R):Steadily ρ P md l R n (f+1) ls a w:=fun hB inv=>by
 have hr':i∈Region.ready md l.toArray ls:=by rw [hr]; simp
 have hin':i<n:=by simpa using hin
 refine ⟨fun h=>(by rw [h] at hr; cases hr),fun j hj=>?_⟩
 rw [hr] at hj
 obtain rfl:j=i:=by simpa using hj
 refine ⟨hin',fun w' hq=>?_⟩
 unfold wpOp
 simp only [at_list hi]
 rw [if_pos hw]
 exact .inl (h w' hq _ fun v w'' hq' hS=>⟨hq',hS hB (inv.set hr' hin')⟩)
theorem steadily_done {ls:Array Bool} {a:Act} {w:World} (hB:Region.seqB md l.toArray (l.toArray.size - n) n ls=true) (h:∀ w',Q w w'→wpList P l.toArray R (l.drop n) a w'):Steadily ρ P md l R n 0 ls a w :=
 fun _ _=>⟨hB,h⟩
end
end RF
end
section
open Go.RowKit Kp
open Go.Lib (decDigits itoa nDigits)
def sepAll (c:UInt8) (s:Str):List Str:=if _h:has c s=true then bef c s::sepAll c (aft c s) else [s]
termination_by s.length
decreasing_by exact aft_lt s _h
theorem sepAll_no {c:UInt8} {s:Str} (h:has c s=false):sepAll c s=[s]:=by rw [sepAll,dif_neg (by rw [h]; decide)]
theorem sepAll_yes {c:UInt8} {s:Str} (h:has c s=true):sepAll c s=bef c s::sepAll c (aft c s):=by rw [sepAll,dif_pos h]
theorem sepAll_app {c:UInt8} {x y:Str} (h:¬ c∈x):sepAll c (x++c::y)=x::sepAll c y:=by rw [sepAll_yes has_app,bef_app h,aft_app h]
theorem sepAll_len (c:UInt8):∀ (n:Nat) (s:Str),s.length≤n→(sepAll c s).length≤s.length+1
 | 0,s,h=>by
  obtain rfl:s=[]:=List.eq_nil_of_length_eq_zero (by omega)
  rw [sepAll_no (by simp [has])]; simp
 | n+1,s,h=>by
  cases hh:has c s with
  | false=>rw [sepAll_no hh]; simp
  | true =>
   have h1:=aft_lt s hh
   have ih:=sepAll_len c n (aft c s) (by omega)
   rw [sepAll_yes hh,List.length_cons]; omega
theorem sepAll_mem (c:UInt8):∀ (n:Nat) (s:Str),s.length≤n→∀ x∈sepAll c s,x.length≤s.length
 | 0,s,h,x,hx=>by
  obtain rfl:s=[]:=List.eq_nil_of_length_eq_zero (by omega)
  rw [sepAll_no (by simp [has]),List.mem_singleton] at hx
  rw [hx]; exact Nat.le_refl _
 | n+1,s,h,x,hx=>by
  cases hh:has c s with
  | false=>rw [sepAll_no hh,List.mem_singleton] at hx; rw [hx]; exact Nat.le_refl _
  | true =>
   have h1:=aft_lt s hh
   rw [sepAll_yes hh,List.mem_cons] at hx
   rcases hx with rfl | hx
   ·exact bef_len s
   ·have:=sepAll_mem c n (aft c s) (by omega) x hx; omega
def numF (x:Ct):List Int:=x.w::x.d::x.n::x.ms
def joinF:List Int→Str
 | []=>[]
 | z::r=>itoa z++r.flatMap fun y=>32::itoa y
theorem joinF_snoc (l:List Int) (z:Int):joinF (l++[z])=if l=[] then itoa z else joinF l++32::itoa z:=by
 cases l with
 | nil=>simp [joinF]
 | cons a r=>simp [joinF]
theorem joinF_two (a b:Int) (r:List Int):joinF (a::b::r)=itoa a++32::joinF (b::r):=by simp [joinF]
def textF (l:List Ct):Str:=l.flatMap fun x=>joinF (numF x)++[10]
theorem textF_take {l:List Ct} {k:Nat} (h:k<l.length):textF (l.take (k+1))=textF (l.take k)++(joinF (numF (ctAt l k))++[10]):=by
 unfold textF
 rw [List.take_succ_eq_append_getElem h,List.flatMap_append,ctAt_get h]; simp
theorem joinF_plain {c:UInt8} (hd:isDig c=false) (hc:c≠32):∀ l:List Int,(∀ z∈l,0≤z)→¬ c∈joinF l
 | [],_=>by simp [joinF]
 | [z],h=>by simp only [joinF,List.flatMap_nil,List.append_nil]; exact itoa_plain (h z (by simp)) c hd
 | a::b::r,h=>by
  rw [joinF_two]
  simp only [List.mem_append,List.mem_cons,not_or]
  exact ⟨itoa_plain (h a (by simp)) c hd,hc,joinF_plain hd hc (b::r) (fun z hz=>h z (by simp at hz ⊢; exact .inr hz))⟩
theorem sep_join:∀ (z:Int) (l:List Int),(∀ y∈z::l,0≤y)→sepAll 32 (joinF (z::l))=(z::l).map itoa
 | z,[],h=>by
  have:¬ (32:UInt8)∈itoa z:=itoa_plain (h z (by simp)) 32 (by decide)
  rw [show joinF [z]=itoa z by simp [joinF],sepAll_no (by simpa [has] using this)]; rfl
 | z,b::r,h=>by
  rw [joinF_two,sepAll_app (itoa_plain (h z (by simp)) 32 (by decide)),sep_join b r (fun y hy=>h y (by simp at hy ⊢; exact .inr hy))]; rfl
def atoV (s:Str):Option Int:=match Go.Lib.atoiAll s with | .ok z=>some z | _=>none
theorem atoV_itoa {z:Int} (h:(itoa z).length≤18):atoV (itoa z)=some z:=by
 unfold atoV
 rw [Go.Lib.atoiAll_short _ h,atoi_itoa]; rfl
def numsV:List Str→Option (List Int)
 | []=>some []
 | s::r=>match atoV s with | none=>none | some z=>(numsV r).map (z::·)
theorem numsV_map:∀ l:List Int,(∀ z∈l,(itoa z).length≤18)→numsV (l.map itoa)=some l
 | [],_=>rfl
 | z::l,h=>by
  rw [List.map_cons,numsV,atoV_itoa (h z (by simp)),numsV_map l (fun y hy=>h y (by simp [hy]))]; rfl
theorem numsV_snoc:∀ (l:List Str) (s:Str),numsV (l++[s])=(numsV l).bind fun x=>(atoV s).map (x++[·])
 | [],s=>by rw [List.nil_append]; unfold numsV; cases atoV s <;> simp [numsV]
 | a::l,s=>by
  rw [List.cons_append,numsV,numsV]
  cases atoV a with
  | none=>rfl
  | some z =>
   simp only
   rw [numsV_snoc l s]
   cases numsV l <;> cases atoV s <;> rfl
theorem numsV_none:∀ (l m:List Str),numsV l=none→numsV (l++m)=none
 | [],m,h=>by cases h
 | a::l,m,h=>by
  rw [List.cons_append]
  rw [numsV] at h ⊢
  cases ha:atoV a with
  | none=>rfl
  | some z =>
   rw [ha] at h
   simp only at h ⊢
   rw [numsV_none l m (by cases hl:numsV l with | none=>rfl | some x=>rw [hl] at h; cases h)]; rfl
theorem numsV_len:∀ (l:List Str) (x:List Int),numsV l=some x→x.length=l.length
 | [],x,h=>by cases h; rfl
 | a::l,x,h=>by
  rw [numsV] at h
  cases ha:atoV a with
  | none=>rw [ha] at h; cases h
  | some z =>
   rw [ha] at h
   simp only at h
   cases hl:numsV l with
   | none=>rw [hl] at h; cases h
   | some y =>
    rw [hl] at h
    cases h
    rw [List.length_cons,numsV_len l y hl,List.length_cons]
def pieceV (l:List Int):Option Ct:=if l.length<4 then none else some ⟨atI l 0,atI l 1,atI l 2,l.drop 3⟩
theorem pieceV_num {x:Ct} (h:0<x.ms.length):pieceV (numF x)=some x:=by
 unfold pieceV numF
 rw [if_neg (by simp; omega)]
 rfl
def lineV (s:Str):Option Ct:=(numsV (sepAll 32 s)).bind pieceV
def linesV (s:Str):Option (List Ct) :=
 if s=[] then some [] else if _h:has 10 s=true then match lineV (bef 10 s) with | none=>none | some x=>(linesV (aft 10 s)).map (x::·) else none
termination_by s.length
decreasing_by exact aft_lt s _h
theorem linesV_nil:linesV []=some []:=by rw [linesV,if_pos rfl]
theorem linesV_cons {s:Str} (h0:s≠[]) (h1:has 10 s=true) {x:Ct} (h2:lineV (bef 10 s)=some x):linesV s=(linesV (aft 10 s)).map (x::·):=by
 rw [linesV,if_neg h0,dif_pos h1,h2]
theorem linesV_bad {s:Str} (h0:s≠[]) (h:has 10 s=false∨lineV (bef 10 s)=none):linesV s=none:=by
 rw [linesV,if_neg h0]
 by_cases h1:has 10 s=true
 ·rw [dif_pos h1]
  rcases h with h | h
  ·rw [h1] at h; cases h
  ·rw [h]
 ·rw [dif_neg h1]
theorem PcOk.short {x:Ct} (h:PcOk x):x.ms.length≤512:=by
 have key:∀ i,i<x.ms.length→(i:Int)≤atI x.ms i:=fun i=>by
  induction i with
  | zero=>intro hi; rw [atI_get hi]; exact (h.off _ (List.getElem_mem hi)).1
  | succ i ih =>
   intro hi
   have h1:=ih (by omega)
   have h2:=asc_at h.asc hi
   omega
 have h0:=h.some
 have h1:=key (x.ms.length - 1) (by omega)
 have h2:=(h.off (atI x.ms (x.ms.length - 1)) (by rw [atI_get (by omega)]; exact List.getElem_mem _)).2
 omega
theorem lineV_len {s:Str} {x:Ct} (h:lineV s=some x):x.ms.length≤s.length+1:=by
 unfold lineV at h
 cases hn:numsV (sepAll 32 s) with
 | none=>rw [hn] at h; cases h
 | some l =>
  rw [hn,Option.bind_some] at h
  unfold pieceV at h
  have h1:=numsV_len _ _ hn
  have h2:=sepAll_len 32 _ s (Nat.le_refl _)
  split at h
  ·cases h
  ·cases h
   show (l.drop 3).length≤_
   rw [List.length_drop]; omega
theorem itoa_six {z:Int} (h0:0≤z) (h1:z<10000000):(itoa z).length≤7:=by
 rw [itoa_nonneg h0]
 exact (decDigits_len_le _ 7 (by decide)).2 (by omega)
theorem PcOk.nums {x:Ct} (h:PcOk x):∀ z∈numF x,0≤z∧z<10000000:=by
 intro z hz
 unfold numF at hz
 simp only [List.mem_cons] at hz
 obtain ⟨w1,w2,d1,d2,n1,n2,-,hof,-⟩:=h
 rcases hz with rfl | rfl | rfl | hz
 ·omega
 ·omega
 ·omega
 ·have:=hof z hz; omega
theorem textF_cons (x:Ct) (l:List Ct):textF (x::l)=joinF (numF x)++10::textF l:=by unfold textF; rw [List.flatMap_cons]; simp
theorem lines_text:∀ l:List Ct,(∀ x∈l,PcOk x)→linesV (textF l)=some l
 | [],_=>linesV_nil
 | x::l,h=>by
  have hx:=h x (by simp)
  have hn:=hx.nums
  have hp:¬ (10:UInt8)∈joinF (numF x):=joinF_plain (by decide) (by decide) _ (fun z hz=>(hn z hz).1)
  have hl:lineV (joinF (numF x))=some x:=by
   unfold lineV
   rw [show numF x=x.w::(x.d::x.n::x.ms) from rfl,sep_join _ _ (fun z hz=>(hn z hz).1),numsV_map _ (fun z hz=>by have:=itoa_six (hn z hz).1 (hn z hz).2; omega),Option.bind_some]
   exact pieceV_num hx.some
  rw [textF_cons,linesV_cons (by simp) has_app (by rw [bef_app hp]; exact hl),aft_app hp,lines_text l (fun y hy=>h y (by simp [hy]))]; rfl
theorem joinF_len:∀ l:List Int,(∀ z∈l,0≤z∧z<10000000)→(joinF l).length≤8*l.length
 | [],_=>by simp [joinF]
 | [z],h=>by
  have:=itoa_six (h z (by simp)).1 (h z (by simp)).2
  simp only [joinF,List.flatMap_nil,List.append_nil,List.length_singleton]; omega
 | a::b::r,h=>by
  have h1:=itoa_six (h a (by simp)).1 (h a (by simp)).2
  have ih:=joinF_len (b::r) (fun z hz=>h z (by simp at hz ⊢; exact .inr hz))
  rw [joinF_two,List.length_append,List.length_cons,List.length_cons]
  rw [List.length_cons] at ih ⊢
  omega
theorem textF_len:∀ (l:List Ct),(∀ x∈l,PcOk x∧x.ms.length≤512)→(textF l).length≤4200*l.length
 | [],_=>by simp [textF]
 | x::l,h=>by
  have ih:=textF_len l (fun y hy=>h y (by simp [hy]))
  have hx:=h x (by simp)
  have hj:=joinF_len _ hx.1.nums
  rw [textF_cons,List.length_append,List.length_cons,List.length_cons]
  have:(numF x).length=x.ms.length+3:=rfl
  omega
end
end Go.Proofs.YtohlpeicpoaanaaGreatDoor
