/-
  What the law asks of chains: marks on lines, what is reached.; Frm Opn Wit, one behind the other.
-/
import Derived.Test.YtapnkgdnflofbaaGreatDoorCH05
import Derived.Test.YtapnkgdnflofbaaGreatDoorCards
import Derived.Test.YtapnkgdnflofbaaGreatDoorTie
import Derived.Test.YtapnkgdnflofbaaGreatDoorCH00
import Derived.ProofKit
import Derived.OpenShut
import Derived.SizedLaws
import Derived.Deep.DeepHandedRow
import Derived.Deep.DeepWitnessRowRef
import Derived.Deep.Slices
import Derived.Deep.Fields
import Derived.ChangeSame
import Derived.Carry
import Derived.Shelf.Vars
import Derived.LaidMore
set_option maxRecDepth 100000
namespace Go.Proofs.YtapnkgdnflofbaaGreatDoor
section
open Kp
structure Mk (n:Nat) (outs:List (List Nat)) (c p:Nat) (of:List Nat):Prop where
 len:of.length=n
 zero:∀ m,of[m]? = some 0→∀ (c' p':Nat) (y:List Nat),outs[c']? = some y→y[p']? = some m→(c'<c∨(c'=c∧p'<p))→False
 pos:∀ m v,of[m]? = some (v+1)→∃ (y:List Nat) (p':Nat),outs[v]? = some y∧y[p']? = some m∧(v<c∨(v=c∧p'<p))
theorem Mk.start(n:Nat)(outs:List (List Nat)):Mk n outs 0 0 (List.replicate n 0) where
 len:=List.length_replicate
 zero:=fun m _ c' p' y _ _ h=>by omega
 pos:=fun m v h=>by
  rw[List.getElem?_replicate]at h
  split at h
  ·cases h
  ·cases h
theorem Mk.mark{n c p m:Nat}{outs:List (List Nat)}{of x:List Nat}(h:Mk n outs c p of)(hx:outs[c]? = some x)(hp:x[p]? = some m):Mk n outs c (p+1) (of.set m (c+1)) where
 len:=by rw[List.length_set];exact h.len
 zero:=fun k hk c' p' y hy hy2 hc=>by
  by_cases e:m=k
  ·subst e
   rw[List.getElem?_set]at hk
   split at hk
   ·split at hk
    ·cases hk
    ·cases hk
   ·exact absurd rfl (by assumption)
  ·rw[List.getElem?_set_ne e]at hk
   refine h.zero k hk c' p' y hy hy2 ?_
   rcases hc with hc | ⟨rfl,hc⟩
   ·exact .inl hc
   ·refine .inr ⟨rfl,?_⟩
    rcases Nat.lt_or_ge p' p with h1 | h1
    ·exact h1
    ·obtain rfl:p'=p:=by omega
     rw[hx]at hy
     cases hy
     rw[hp]at hy2
     cases hy2
     exact absurd rfl e
 pos:=fun k v hk=>by
  by_cases e:m=k
  ·subst e
   rw[List.getElem?_set]at hk
   split at hk
   ·split at hk
    ·cases hk
     exact⟨x,p,hx,hp,.inr ⟨rfl,by omega⟩⟩
    ·cases hk
   ·exact absurd rfl (by assumption)
  ·rw[List.getElem?_set_ne e]at hk
   obtain⟨y,p',h1,h2,h3⟩:=h.pos k v hk
   refine⟨y,p',h1,h2,?_⟩
   omega
theorem Mk.next{n c p:Nat}{outs:List (List Nat)}{of x:List Nat}(h:Mk n outs c p of)(hx:outs[c]? = some x)(hp:x.length≤p):Mk n outs (c+1) 0 of where
 len:=h.len
 zero:=fun k hk c' p' y hy hy2 hc=>by
  refine h.zero k hk c' p' y hy hy2 ?_
  rcases hc with hc | ⟨-,hc⟩
  ·rcases Nat.lt_or_ge c' c with h1 | h1
   ·exact .inl h1
   ·obtain rfl:c'=c:=by omega
    rw[hx]at hy
    cases hy
    have:=(List.getElem?_eq_some_iff.1 hy2).1
    exact .inr ⟨rfl,by omega⟩
  ·omega
 pos:=fun k v hk=>by
  obtain⟨y,p',h1,h2,h3⟩:=h.pos k v hk
  refine⟨y,p',h1,h2,?_⟩
  omega
theorem zn4{outs:List (List Nat)}(h:outs.Pairwise fun x y=>∀ m,m∈x→m ∉ y){a b:Nat}{x y:List Nat}(ha:outs[a]? = some x)(hb:outs[b]? = some y)(hn:a≠b){m:Nat}(hx:m∈x)(hy:m∈y):False:=by
 obtain⟨la,ea⟩:=List.getElem?_eq_some_iff.1 ha
 obtain⟨lb,eb⟩:=List.getElem?_eq_some_iff.1 hb
 rw[List.pairwise_iff_getElem]at h
 rcases Nat.lt_or_gt_of_ne hn with hlt | hlt
 ·exact h a b la lb hlt m (by rw[ea];exact hx) (by rw[eb];exact hy)
 ·exact h b a lb la hlt m (by rw[eb];exact hy) (by rw[ea];exact hx)
theorem zsk{x:List Nat}(h:x.Pairwise (·<·)){p q a b:Nat}(ha:x[p]? = some a)(hb:x[q]? = some b)(hpq:p<q):a<b:=by
 obtain⟨la,ea⟩:=List.getElem?_eq_some_iff.1 ha
 obtain⟨lb,eb⟩:=List.getElem?_eq_some_iff.1 hb
 rw[List.pairwise_iff_getElem]at h
 rw[← ea,← eb]
 exact h p q la lb hpq
theorem ChOk.nodup{G:Net}{x:List Nat}(h:ChOk G x):x.Nodup:=h.asc.imp fun h=>Nat.ne_of_lt h
theorem ChOk.ne{G:Net}{x:List Nat}(h:ChOk G x):0<x.length:=by
 obtain⟨y,h1,-,-,h4,-⟩:=h.ord
 rw[← h1]
 exact List.length_pos_iff.2 h4
section
variable {G:Net} {i:Nat} {s:List Bool} {outs:List (List Nat)}
theorem Mk.free(h:Chs G i s outs){c p m:Nat}{of x:List Nat}(hm:Mk G.n outs c p of)(hx:outs[c]? = some x)(hp:x[p]? = some m):of[m]? = some 0:=by
 have hok:=h.each x (List.mem_of_getElem? hx)
 have hlt:=hok.lt m (List.mem_of_getElem? hp)
 cases hv:of[m]? with
 | none =>
  rw[List.getElem?_eq_none_iff,hm.len]at hv
  omega
 | some v =>
  cases v with
  | zero=>rfl
  | succ v =>
   exfalso
   obtain⟨y,p',h1,h2,h3⟩:=hm.pos m v hv
   rcases h3 with h3 | ⟨rfl,h3⟩
   ·exact zn4 h.apart h1 hx (by omega) (List.mem_of_getElem? h2) (List.mem_of_getElem? hp)
   ·rw[hx]at h1
    cases h1
    have:=zsk hok.asc h2 hp h3
    omega
theorem Chs.headlt(h:Chs G i s outs){c:Nat}{x y:List Nat}{a b:Nat}(hx:outs[c]? = some x)(hy:outs[c+1]? = some y)(ha:x[0]? = some a)(hb:y[0]? = some b):a<b:=by
 obtain⟨la,ea⟩:=List.getElem?_eq_some_iff.1 hx
 obtain⟨lb,eb⟩:=List.getElem?_eq_some_iff.1 hy
 have h1:=h.heads
 rw[List.pairwise_iff_getElem]at h1
 exact h1 c (c+1) la lb (by omega) a b (by rw[ea];exact ha) (by rw[eb];exact hb)
end
theorem Mk.kind{L:List Ln}{k:Int}{s:List Bool}{outs:List (List Nat)}{of:List Nat}(h:Chs (zjL L k) L.length s outs)(hm:Mk L.length outs outs.length 0 of){j v:Nat}{x:Ln}(hx:L[j]? = some x)(hv:of[j]? = some v):x.k=k ↔ 0<v:=by
 have hj:=(List.getElem?_eq_some_iff.1 hx).1
 constructor
 ·intro hk
  have hK:=(zho L k j).2 ⟨x,hx,hk⟩
  have h1:=h.all j hj hj hK
  obtain⟨y,hy,hmem⟩:=(h.sn j hj).1 h1
  obtain⟨c,hc,ec⟩:=List.getElem_of_mem hy
  obtain⟨p,hp,ep⟩:=List.getElem_of_mem hmem
  rcases Nat.eq_zero_or_pos v with rfl | hp0
  ·exact(hm.zero j hv c p y (by rw[List.getElem?_eq_getElem hc,ec]) (by rw[List.getElem?_eq_getElem hp,ep]) (.inl hc)).elim
  ·exact hp0
 ·intro h0
  obtain⟨u,rfl⟩:∃ u,v=u+1:=⟨v - 1,by omega⟩
  obtain⟨y,p,h1,h2,-⟩:=hm.pos j u hv
  have hK:=(h.each y (List.mem_of_getElem? h1)).own j (List.mem_of_getElem? h2)
  obtain⟨x',h3,h4⟩:=(zho L k j).1 hK
  rw[hx]at h3
  cases h3
  exact h4
theorem Mk.apart{L:List Ln}{k:Int}{s:List Bool}{outs:List (List Nat)}{of:List Nat}(h:Chs (zjL L k) L.length s outs)(hm:Mk L.length outs outs.length 0 of){a b u v:Nat}{x y:Ln}(hx:L[a]? = some x)(hy:L[b]? = some y)(hu:of[a]? = some u)(hv:of[b]? = some v)(h0:0<u)(h1:0<v)(hne:u≠v):¬ ziL x y:=by
 intro hj
 have hky:=(Mk.kind h hm hy hv).2 h1
 obtain⟨u',rfl⟩:∃ u',u=u'+1:=⟨u - 1,by omega⟩
 obtain⟨v',rfl⟩:∃ v',v=v'+1:=⟨v - 1,by omega⟩
 obtain⟨z,p,e1,e2,-⟩:=hm.pos a u' hu
 obtain⟨z',p',e3,e4,-⟩:=hm.pos b v' hv
 have hb:=(h.each z (List.mem_of_getElem? e1)).shut a (List.mem_of_getElem? e2) b ((zgW L k a b).2 ⟨x,y,hx,hy,hky,hj⟩)
 exact zn4 h.apart e1 e3 (by omega) hb (List.mem_of_getElem? e4)
noncomputable def jnB (L:List Ln) (a b:Nat):Bool:=@decide (∃ x y,L[a]? = some x∧L[b]? = some y∧ziL x y) (Classical.propDecidable _)
theorem zqd(L:List Ln){a b:Nat}{x y:Ln}(hx:L[a]? = some x)(hy:L[b]? = some y):jnB L a b=true ↔ ziL x y:=by
 unfold jnB
 rw[@decide_eq_true_iff _ (Classical.propDecidable _)]
 constructor
 ·rintro⟨x',y',h1,h2,h3⟩
  rw[hx]at h1
  rw[hy]at h2
  cases h1
  cases h2
  exact h3
 ·exact fun h=>⟨x,y,hx,hy,h⟩
def zjc(L:List Ln)(x:List Nat)(t j:Nat)(r:List Nat):Prop:=∃ y:List Nat,y.length=x.length∧(∀ c,c∈y ↔ c∈x)∧(∀ p,0<p→∀ b,y[p]? = some b→∃ q a,q<p∧y[q]? = some a∧jnB L b a=true)∧Rea (jnB L) x y t j r
section
variable {L:List Ln} {k:Int} {x r:List Nat} {t j c:Nat}
theorem zjc.start(h:ChOk (zjL L k) x){a:Nat}(ha:x[0]? = some a):zjc L x 0 0 [a]:=by
 obtain⟨y,h1,h2,h3,h4,h5⟩:=h.ord
 refine⟨y,h1,h2,fun p hp b hb=>?_,Rea.start ha (by rw[h3];exact ha)⟩
 obtain⟨q,e,hq,he,hn⟩:=h5 p hp b hb
 obtain⟨u,v,hu,hv,-,hj⟩:=(zgW L k e b).1 hn
 exact⟨q,e,hq,he,(zqd L hv hu).2 hj.symm⟩
theorem zjc.add(h:zjc L x t j r)(hc:x[j]? = some c)(hn:c ∉ r):zjc L x t (j+1) (r++[c]):=by
 obtain⟨y,h1,h2,h3,h4⟩:=h
 exact⟨y,h1,h2,h3,h4.add hc hn⟩
theorem zjc.pass(h:zjc L x t j r)(hc:x[j]? = some c)(hn:c∈r∨∀ a∈r,jnB L c a=false):zjc L x t (j+1) r:=by
 obtain⟨y,h1,h2,h3,h4⟩:=h
 exact⟨y,h1,h2,h3,h4.pass hc hn⟩
theorem zjc.round(h:zjc L x t j r)(hj:x.length≤j):zjc L x (t+1) 0 r:=by
 obtain⟨y,h1,h2,h3,h4⟩:=h
 exact⟨y,h1,h2,h3,h4.round hj (fun c hc=>(h2 c).1 hc) h3⟩
theorem zjc.full(h:zjc L x t j r)(hx:ChOk (zjL L k) x)(ht:x.length≤t):r.length=x.length:=by
 obtain⟨y,h1,h2,h3,h4⟩:=h
 exact h4.full (by omega) h1 hx.nodup h2
theorem zjc.sub(h:zjc L x t j r):∀ c∈r,c∈x:=by
 obtain⟨y,h1,h2,h3,h4⟩:=h
 exact h4.sub
theorem zjc.pos(h:zjc L x t j r)(hx:0<x.length):0<r.length:=by
 obtain⟨y,h1,h2,h3,h4⟩:=h
 have hy:0<y.length:=by omega
 exact List.length_pos_of_mem (h4.got 0 y[0] (Nat.zero_le _) (List.getElem?_eq_getElem hy))
theorem zjc.le(h:zjc L x t j r):r.length≤x.length:=by
 obtain⟨y,h1,h2,h3,h4⟩:=h
 exact h4.nd.length_le_of_subset h4.sub
end
end
section
open Go.ChangeShapes Go.WideShapes Go.ChangeAt Go.RowKit Go.Deep Kp
theorem own:ownKnob Tryz.prog.godebug=none:=by kernel_rfl
theorem laidOut:laidOutB Tryz.prog=true:=by kernel_rfl
theorem zb1{P:Program}{w:World}{n:String}{d:DataW Unit}:∀ {l:List (String × DataW Unit)} {ps:List MemPlace},DataW.LaidVars P w l ps→(n,d)∈l →
  ∃ g t cs fuel p,P.globalNamed n=some g∧(P.globals[g]?).map (·.type)=some t∧w.var? P n=some cs∧DataW.trod (fun _=>()) P w 0 (fun _=>true) false fuel t cs.toList=some (d,p)
 | [],_,_,hm=>by cases hm
 | (m,e)::r,ps,h,hm=>by
  obtain⟨g,t,cs,fuel,p,q,e1,e2,e3,e4,hr,rfl⟩:=h
  rcases List.mem_cons.1 hm with hm | hm
  ·cases hm;exact⟨g,t,cs,fuel,p,e1,e2,e3,e4⟩
  ·exact zb1 hr hm
theorem zk3{H:Type}{enc:TypeId × Value→H}{P:Program}{w:World}{base:Nat}{sp:Nat→Bool}{held:Bool}{fuel:Nat}{t e:TypeId}{n:Nat}{cs:List Value}{ls:List Str}{p:List MemPlace}
  (ht:P.underlying t=some (.array n e))(he:P.underlying e=some .string)(hce:P.cellsOf e=1)(hct:P.cellsOf t=n)
  (h:DataW.trod enc P w base sp held fuel t cs=some (.agg (ls.map fun s=>.lit (.string s)),p)):cs=ls.map fun s=>Value.string ⟨s.toArray⟩:=by
 cases fuel with
 | zero=>simp[DataW.trod]at h
 | succ fuel =>
  simp only[DataW.trod,ht,hce,hct,Nat.mul_one]at h
  split at h
  ·rename_i hl
   obtain⟨xs,hm,hx⟩:=Option.map_eq_some_iff.1 h
   have hxs:xs.map (·.1)=ls.map fun s=>(DataW.lit (.string s):DataW H):=by
    have:=congrArg Prod.fst hx
    simpa using this
   have hxl:xs.length=n:=by simpa using Lib.mapM_length hm
   have hzl:ls.length=n:=by
    have:=congrArg List.length hxs
    simp at this
    omega
   apply List.ext_getElem?
   intro i
   by_cases hi:i<n
   ·obtain⟨b,hb,hf⟩:=Lib.mapM_at hm i i (by simp[hi])
    obtain⟨z,hc,rfl,_⟩:=DataW.trod_string he hf
    have h1:cs[i]? = some (.string z):=by
     have:=congrArg (·[0]?) hc
     simpa[List.getElem?_take,List.getElem?_drop]using this
    have h2:(xs.map (·.1))[i]? = some (DataW.lit (.string z.data.toList):DataW H):=by simp[hb]
    rw[hxs]at h2
    simp only[List.getElem?_map,Option.map_eq_some_iff,DataW.lit.injEq,Lit.string.injEq]at h2
    obtain⟨z',hz',he'⟩:=h2
    have e3:z=⟨z'.toArray⟩:=by rw[he']
    simp[h1,hz',e3]
   ·rw[List.getElem?_eq_none (by omega),List.getElem?_eq_none (by simp;omega)]
  ·cases h
theorem zpw{P:Program}{w:World}{name:String}{g:Nat}{l:List Str}{cs:Array Value}(hg:P.globalNamed name=some g)(hv:w.var? P name=some cs)(hc:cs.toList=l.map fun s=>Value.string ⟨s.toArray⟩):zgC w g l:=by
 unfold World.var? at hv
 rw[hg]at hv
 simp only[Option.bind_some]at hv
 cases hh:w.heap[g]? with
 | none=>rw[hh]at hv;cases hv
 | some o =>
  rw[hh]at hv
  cases o <;> simp at hv
  rename_i c t f
  subst hv
  exact⟨t,f,by rw[hh,← hc]⟩
theorem zlS{P:Program}{w:World}{g:Nat}(h:w.ShapedOpen P)(hg:g<P.globals.size)(h0:(((begin P (fun _ _=>0) default).world.heap[g]?).bind Obj.row?).isSome=true):g<w.heap.size:=by
 obtain⟨⟨zero,t⟩,e⟩:=Option.isSome_iff_exists.1 h0
 obtain⟨cs,hh,_⟩:=h.1 g zero t hg e
 exact(Array.getElem?_eq_some_iff.1 hh).1
theorem zqu : Tryz.prog.globalNamed "kingpost/root.primes" = some 2 := by kernel_rfl
theorem zto:(Tryz.prog.globals[5]?).map (·.type)=some 380:=by kernel_rfl
theorem zsr:(Tryz.prog.globals[2]?).map (·.type)=some 333:=by kernel_rfl
theorem zoh:(Tryz.prog.globals[3]?).map (·.type)=some 257:=by kernel_rfl
theorem zpt:(Tryz.prog.globals[4]?).map (·.type)=some 257:=by kernel_rfl
theorem ztI:Tryz.prog.cellsOf 380=20:=by kernel_rfl
theorem zt9:Tryz.prog.cellsOf 175=1:=by kernel_rfl
theorem zs8:Tryz.prog.cellsOf 333=25:=by kernel_rfl
theorem zs7:Tryz.prog.cellsOf 9=1:=by kernel_rfl
theorem ztF : Tryz.prog.globalNamed "kingpost/front.directions" = some 1 := by kernel_rfl
theorem ztS:(Tryz.prog.globals[1]?).map (·.type)=some 252:=by kernel_rfl
theorem zt2:Tryz.prog.cellsOf 252=8:=by kernel_rfl
theorem zt7:Tryz.prog.cellsOf 251=2:=by kernel_rfl
theorem zgz{W:World}{fuel:Nat}{cs:List Value}{b:Bool}{z:Int}{y:DataW Unit × List MemPlace}(h:DataW.trod (fun _=>()) Tryz.prog W 0 (fun _=>true) false fuel 251 cs=some y)(hy:y.1=.agg [.lit (.bool b),.lit (.int .i64 z)]):cs=[.bool b,.int .i64 z]:=by
 obtain⟨y0,y1,n,rfl,hl,h0,h1⟩:=trod_struct2 Tryz.underlying251 h
 obtain⟨b',e0,rfl⟩:=DataW.trod_bool Tryz.underlying4 h0
 obtain⟨z',e1,rfl,_⟩:=DataW.trod_int Tryz.underlying3 h1
 rw[zt7]at hl
 simp only[DataW.agg.injEq,List.cons.injEq,DataW.lit.injEq,Lit.bool.injEq,Lit.int.injEq,true_and,and_true]at hy
 obtain⟨rfl,rfl⟩:=hy
 match cs,hl with
 | [c0,c1],_ =>
  have e0':[c0]=[.bool b']:=e0
  have e1':[c1]=[.int .i64 z']:=e1
  injection e0' with e0' _
  injection e1' with e1' _
  rw[e0',e1']
theorem zk4{W:World}{fuel:Nat}{cs:List Value}{p:List MemPlace}(h:DataW.trod (fun _=>()) Tryz.prog W 0 (fun _=>true) false fuel 252 cs=some (Rows.laid_kingpost_front_directions,p)):cs=zrM:=by
 obtain⟨xs,m,_,hx,hl,hxl,hf⟩:=DataW.trod_array Tryz.underlying252 h
 rw[zt2]at hl
 have e:(Rows.laid_kingpost_front_directions:DataW Unit)=.agg [.agg [.lit (.bool false),.lit (.int .i64 1)],.agg [.lit (.bool true),.lit (.int .i64 (-1))],.agg [.lit (.bool false),.lit (.int .i64 (-1))],.agg [.lit (.bool true),.lit (.int .i64 1)]]:=rfl
 rw[e]at hx
 match xs,hxl with
 | [y0,y1,y2,y3],_ =>
  have h0:=hf 0 (by decide)
  have h1:=hf 1 (by decide)
  have h2:=hf 2 (by decide)
  have h3:=hf 3 (by decide)
  rw[zt7]at h0 h1 h2 h3
  simp only[List.map_cons,List.map_nil,Prod.mk.injEq,DataW.agg.injEq,List.cons.injEq,and_true]at hx
  obtain⟨⟨x0,x1,x2,x3⟩,_⟩:=hx
  have g0:=zgz h0 x0.symm
  have g1:=zgz h1 x1.symm
  have g2:=zgz h2 x2.symm
  have g3:=zgz h3 x3.symm
  match cs,hl with
  | [c0,c1,c2,c3,c4,c5,c6,c7],_ =>
   have g0':[c0,c1]=_:=g0
   have g1':[c2,c3]=_:=g1
   have g2':[c4,c5]=_:=g2
   have g3':[c6,c7]=_:=g3
   simp only[List.cons.injEq,and_true]at g0' g1' g2' g3'
   rw[g0'.1,g0'.2,g1'.1,g1'.2,g2'.1,g2'.2,g3'.1,g3'.2]
   rfl
theorem zqM {W : World} {cs : Array Value} (hv : W.var? Tryz.prog "kingpost/front.directions" = some cs) (hc : cs.toList = zrM) : zsn W := by
 unfold World.var? at hv
 rw[ztF]at hv
 simp only[Option.bind_some]at hv
 cases hh:W.heap[1]? with
 | none=>rw[hh]at hv;cases hv
 | some o =>
  rw[hh]at hv
  cases o <;> simp at hv
  rename_i c t f
  subst hv
  exact⟨t,f,by rw[hh,← hc]⟩
theorem znV{W:World}{name nm:String}{cs:Array Value}{fuel:Nat}{d:DataW Unit}{p:List MemPlace}(hv:W.var? Tryz.prog name=some cs)(hd:DataW.trod (fun _=>()) Tryz.prog W 0 (fun _=>true) false fuel 257 cs.toList=some (.iface nm d,p)) :
  ∃ tp q,W.var? Tryz.prog name=some #[.iface tp q]:=by
 obtain⟨_,u,v,e,_⟩:=iface_of_trod Tryz.underlying257 hd
 exact⟨u,v,by rw[hv];congr 1;exact Array.toList_inj.1 e⟩
structure Listed (L:List (String × DataW Unit)):Prop where
 pow10 : ("internal/strconv.uint64pow10", Rows.laid_internal_strconv_uint64pow10) ∈ L
 errSyntax : ("strconv.ErrSyntax", Rows.laid_strconv_ErrSyntax) ∈ L
 errRange : ("strconv.ErrRange", Rows.laid_strconv_ErrRange) ∈ L
 primes : ("kingpost/root.primes", Rows.laid_kingpost_root_primes) ∈ L
 dirs : ("kingpost/front.directions", Rows.laid_kingpost_front_directions) ∈ L
theorem Env.of{W : World}{L : List (String × DataW Unit)}(hsh : W.ShapedOpen Tryz.prog)(hl : laidMetH Tryz.prog L W)(hL : Listed L) : Env W := by
  obtain⟨ps, hv, _⟩ := (laidMetH_iff.1 hl).1
  obtain⟨g1, t1, cs1, f1, p1, a1, b1, c1, d1⟩ := zb1 hv (List.mem_filter.2 ⟨hL.pow10, by kernel_rfl⟩)
  obtain⟨g2, t2, cs2, f2, p2, a2, b2, c2, d2⟩ := zb1 hv (List.mem_filter.2 ⟨hL.errSyntax, by kernel_rfl⟩)
  obtain⟨g3, t3, cs3, f3, p3, a3, b3, c3, d3⟩ := zb1 hv (List.mem_filter.2 ⟨hL.errRange, by kernel_rfl⟩)
  obtain⟨g4, t4, cs4, f4, p4, a4, b4, c4, d4⟩ := zb1 hv (List.mem_filter.2 ⟨hL.primes, by kernel_rfl⟩)
  obtain rfl := Option.some.inj (a1.symm.trans zsf)
  obtain rfl := Option.some.inj (a2.symm.trans zjW)
  obtain rfl := Option.some.inj (a3.symm.trans zme)
  obtain rfl := Option.some.inj (a4.symm.trans zqu)
  obtain rfl := Option.some.inj (b1.symm.trans zto)
  obtain rfl := Option.some.inj (b2.symm.trans zoh)
  obtain rfl := Option.some.inj (b3.symm.trans zpt)
  obtain rfl := Option.some.inj (b4.symm.trans zsr)
  obtain⟨g7, t7, cs7, f7, p7, a7, b7, c7, d7⟩ := zb1 hv (List.mem_filter.2 ⟨hL.dirs, by kernel_rfl⟩)
  obtain rfl := Option.some.inj (a7.symm.trans ztF)
  obtain rfl := Option.some.inj (b7.symm.trans ztS)
  have e1 : (Rows.laid_internal_strconv_uint64pow10 : DataW Unit) = Lib.tabData .u64 Lib.pow10Tab := rfl
  have e4 : (Rows.laid_kingpost_root_primes : DataW Unit) = .agg (zc3.map fun s => .lit (.string s)) := rfl
  rw[e1]at d1
  rw[e4]at d4
  exact
  { size := Nat.succ_le_of_lt (zlS (g := ng - 1) hsh (of_decide_eq_true (by kernel_rfl)) (by kernel_rfl))
    maxlen := cell_of_shapedOpen_int (zero := #[.int .i64 0]) (t := 3) hsh (of_decide_eq_true (by kernel_rfl)) (by kernel_rfl) rfl (by kernel_rfl) (by kernel_rfl) Tryz.underlying3
    pow10 := by unfold Lib.TabIs;rw[c1, ← Lib.cells_of_tab Tryz.underlying380 Tryz.underlying175 zt9 ztI d1]
    errSyntax := znV c2 d2
    errRange := znV c3 d3
    primes := zpw zqu c4 (zk3 Tryz.underlying333 Tryz.underlying9 zs7 zs8 d4)
    dirs := zqM c7 (zk4 d7)
 }
section
variable {H:Type} {enc:TypeId × Value→H} {P:Program} {w:World} {base:Nat} {spare:Nat→Bool} {held:Bool}
theorem zfQ(hl:laidOutB P=true){W W':World}(hb:Below W.heap.size W W') :
  ∀ {ts:List TypeId} {vs:List Value} {ds:List (DataW H)} {ps:List MemPlace},(ts.all fun t=>P.readableRec t && decide (t<P.types.size))=true→DataW.TrodAll enc P W 0 (fun _=>true) true ts vs ds ps→(∀ x∈ps,x.block<W.heap.size) →
   DataW.TrodAll enc P W' 0 (fun b=>decide (b<W.heap.size)) true ts vs ds ps
 | [],vs,ds,ps,_,h,_=>by
  obtain⟨rfl,rfl,rfl⟩:=trodAll_nil h
  exact trodAll_mk0
 | t::ts,vs,ds,ps,ht,h,hlt=>by
  obtain⟨v,vs',d,ds',p,q,rfl,rfl,rfl,h1,h2⟩:=trodAll_cons h
  simp only[List.all_cons,Bool.and_eq_true,decide_eq_true_eq]at ht
  exact trodAll_cons_mk (Below.trod hl ht.1.1 ht.1.2 h1 hb (fun x hx=>hlt x (by simp[hx]))) (zfQ hl hb ht.2 h2 (fun x hx=>hlt x (by simp[hx])))
end
theorem zry{H:Type}{enc:TypeId × Value→H}{fn:Func}{s:ChangeSpec}{W W':World}{args:Array Value}{ds gs:List (DataW H)}{before:List MemPlace}
  (hW:DataW.Whole enc Tryz.prog fn.params.toList s.vars false W args.toList ds gs before)(hrt:fn.resultTypes=#[4])(hv:s.vars=[])
  (hres:(s.fn H (ds++gs)).results=[.lit (.bool true)])(hargs:(s.fn H (ds++gs)).args=ds)(hvars:(s.fn H (ds++gs)).vars=[])
  (hty:(fn.params.toList.all fun t=>Tryz.prog.readableRec t && decide (t<Tryz.prog.types.size))=true)(hb:Below W.heap.size W W') :
  s.post enc Tryz.prog fn false true false false W args (.bool true) W':=by
 have hW':=hW
 obtain⟨p,q,hA,hV,rfl,_,_⟩:=hW
 rw[hv]at hV
 obtain⟨rfl,rfl⟩:=trodVars_none hV
 have hlt:∀ x∈p,x.block<W.heap.size:=fun x hx=>hW'.lt x (by simp[hx])
 refine⟨ds,[],p++[],[],p,[],hW',?_,?_,?_,?_,fun h=>by cases h⟩
 ·rw[hres,hrt];exact trodAll_mk1 (shut_bool Tryz.underlying4 true)
 ·rw[hargs];exact zfQ laidOut hb hty hA hlt
 ·rw[hvars,hv];exact rfl
 ·exact hb.frame _
def zsh:DataW Unit→List Value
 | .lit l=>[l.value]
 | _=>[]
def zsg:DataW Unit→List Value
 | .agg l=>l.flatMap zsh
 | d=>zsh d
def cells3:DataW Unit→List Value
 | .agg l=>l.flatMap zsg
 | d=>zsg d
def zfg(h:Array Obj)(g:Nat)(cs:List Value):Array Obj:=h.modify g fun
 | .cells _ t frozen=>.cells cs.toArray t frozen
 | o=>o
noncomputable def ziJ (os:Os):World :=
 let N:=(World.settled Tryz.prog os).heap.size
 let w0:=World.holding Tryz.prog os ⟨#[.cells #[.string ⟨#[118,97,108,117,101,32,111,117,116,32,111,102,32,114,97,110,103,101]⟩] 393,.cells #[.string ⟨#[105,110,118,97,108,105,100,32,115,121,110,116,97,120]⟩] 393,.map #[{ key:=.int .i64 1,val:=.func (.func 65) #[] #[],born:=0 },{ key:=.int .i64 2,val:=.func (.func 65) #[] #[],born:=1 },{ key:=.int .i64 3,val:=.func (.func 65) #[] #[],born:=2 },{ key:=.int .i64 4,val:=.func (.func 368) #[] #[],born:=3 },{ key:=.int .i64 5,val:=.func (.func 368) #[] #[],born:=4 },{ key:=.int .i64 6,val:=.func (.func 65) #[] #[],born:=5 },{ key:=.int .i64 7,val:=.func (.func 368) #[] #[],born:=6 },{ key:=.int .i64 8,val:=.func (.func 368) #[] #[],born:=7 }] 8],#[],[]⟩
 let h1:=zfg w0.heap 9 (cells3 Rows.laid_math_bits_deBruijn32tab)
 let h2:=zfg h1 10 (cells3 Rows.laid_math_bits_deBruijn64tab)
 let h3:=zfg h2 5 (cells3 Rows.laid_internal_strconv_uint64pow10)
 let h4:=zfg h3 8 (cells3 Rows.laid_unicode_utf8_acceptRanges)
 let h5:=zfg h4 4 [.iface 391 (.pointer (some ⟨N,0,none⟩))]
 let h6:=zfg h5 3 [.iface 391 (.pointer (some ⟨N+1,0,none⟩))]
 let h7:=zfg h6 2 (cells3 Rows.laid_kingpost_root_primes)
 let h7:=zfg h7 0 [.map (some (N+2))]
 let h7:=zfg h7 1 (cells3 Rows.laid_kingpost_front_directions)
 let h8:=zfg h7 7 (cells3 Rows.laid_unicode_utf8_first)
 { w0 with heap:=h8 }
def zsw : List (String × DataW Unit) := [("math/bits.deBruijn32tab", Rows.laid_math_bits_deBruijn32tab), ("math/bits.deBruijn64tab", Rows.laid_math_bits_deBruijn64tab), ("internal/strconv.uint64pow10", Rows.laid_internal_strconv_uint64pow10), ("unicode/utf8.acceptRanges", Rows.laid_unicode_utf8_acceptRanges), ("strconv.ErrRange", Rows.laid_strconv_ErrRange), ("strconv.ErrSyntax", Rows.laid_strconv_ErrSyntax),
 ("kingpost/front.directions", Rows.laid_kingpost_front_directions),
 ("kingpost/root.primes", Rows.laid_kingpost_root_primes),
 ("kingpost/ridgeline.sides", Rows.laid_kingpost_ridgeline_sides),
 ("unicode/utf8.first", Rows.laid_unicode_utf8_first)]
theorem listed:Listed zsw where
 pow10:=by simp[zsw]
 errSyntax:=by simp[zsw]
 errRange:=by simp[zsw]
 primes:=by simp[zsw]
 dirs:=by simp[zsw]
theorem zrz(os:Os)(args:Array Value):laidMetH Tryz.prog zsw ((ziJ os).forCall (fun _ _=>0) ⟨#[],args,[]⟩).memory :=
 laidMetH_of_parts3 (fuel:=10) (laidMet_of_run' 10 (by kernel_rfl) (by kernel_rfl)) (by kernel_rfl) (by kernel_rfl)
end
end Go.Proofs.YtapnkgdnflofbaaGreatDoor
