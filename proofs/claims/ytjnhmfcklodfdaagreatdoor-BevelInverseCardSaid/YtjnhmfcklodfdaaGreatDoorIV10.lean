/-
  Rows of any elements in memory.; Loops over an iterator that counts upward; the sides of a plan.; What makes a plan valid, as the program asks it. Mathematics.
-/
import Derived.Test.YtjnhmfcklodfdaaGreatDoorIVBI1
import Derived.Test.YtjnhmfcklodfdaaGreatDoorIV09
namespace Go.Proofs.YtjnhmfcklodfdaaGreatDoor
section
open Go.RowKit Kp
def zdc{α:Type}(k:Nat)(enc:α→List Value)(w:World)(v:Value)(l:List α):Prop:=∃ a cap,v=.slice a l.length cap∧∀ i (h:i<l.length),∃ b o,a=some ⟨b,o,none⟩∧b<w.heap.size∧∀ j u,(enc l[i])[j]? = some u→w.cell? ⟨b,o+i*k+j,none⟩=some u
section
variable {α:Type} {k:Nat} {enc:α→List Value}
theorem zdc.keepB{w w':World}{B:Nat}{v:Value}{l:List α}(h:zdc k enc w v l)(hq:Below B w w')(hB:w.heap.size≤B):zdc k enc w' v l:=by
 obtain⟨a,cap,rfl,hc⟩:=h
 refine⟨a,cap,rfl,fun i hi=>?_⟩
 obtain⟨b,o,ha,hb,h⟩:=hc i hi
 exact⟨b,o,ha,Nat.lt_of_lt_of_le hb hq.size,fun j u hu=>(hq.cell (p:=⟨b,o+i*k+j,none⟩) (show b<B by omega)).trans (h j u hu)⟩
theorem zdc.keep{w w':World}{v:Value}{l:List α}(h:zdc k enc w v l)(hq:Q w w'):zdc k enc w' v l:=h.keepB hq (Nat.le_refl _)
def rowOf(enc:α→List Value)(l:List α):List Value:=l.flatMap enc
theorem ziZ(hk:∀ x,(enc x).length=k):∀ l:List α,(rowOf enc l).length=l.length*k
 | []=>by simp[rowOf]
 | x::l=>by
  have ih:=ziZ hk l
  unfold rowOf at *
  rw[List.flatMap_cons,List.length_append,hk,ih,List.length_cons,Nat.succ_mul];omega
theorem zdl(hk:∀ x,(enc x).length=k):∀ (l:List α) (i:Nat) (h:i<l.length) (j:Nat),j<k→(rowOf enc l)[i*k+j]? = (enc l[i])[j]?
 | [],i,h,_,_=>absurd h (Nat.not_lt_zero _)
 | x::l,0,_,j,hj=>by
  unfold rowOf
  rw[List.flatMap_cons,Nat.zero_mul,Nat.zero_add,List.getElem?_append_left (by rw[hk];exact hj)];rfl
 | x::l,i+1,h,j,hj=>by
  have ih:=zdl hk l i (by simpa using h) j hj
  unfold rowOf at *
  rw[List.flatMap_cons,List.getElem?_append_right (by rw[hk,Nat.succ_mul];omega),hk,show (i+1)*k+j - k=i*k+j by rw[Nat.succ_mul];omega]
  exact ih
theorem zkx(l:List α)(x:α):rowOf enc (l++[x])=rowOf enc l++enc x:=by unfold rowOf;rw[List.flatMap_append];simp
theorem zdc.of_row{w:World}{B:Nat}{t:TypeId}{v:Value}{l:List α}(hk:∀ x,(enc x).length=k)(h:w.ownsRow B t k v l.length (rowOf enc l)):zdc k enc w v l:=by
 have h0:=h
 rcases h.2 with⟨rfl,hn⟩|⟨g,cap,cur,rfl,hg,hc,hnc,hcm,hsz,htk⟩
 ·exact⟨none,0,by rw[hn],fun i hi=>by omega⟩
 ·refine⟨_,cap,rfl,fun i hi=>⟨g,0,rfl,(Array.getElem?_eq_some_iff.1 hc).1,fun j u hu=>?_⟩⟩
  have hj:j<k:=by have:=(List.getElem?_eq_some_iff.1 hu).1;rwa[hk]at this
  have hb:i*k+j<l.length*k:=by
   have h1:=Nat.mul_le_mul_right k (show i+1≤l.length from hi)
   rw[Nat.succ_mul]at h1;omega
  rw[Nat.zero_add,World.ownsRow.cellAt h0 (i*k+j) hb,zdl hk l i hi j hj]
  exact hu
end
theorem zda{P:Program}{o:Oper}{ev:Operand→Value}(ty:TypeId)(x:Operand)(ho:o.op=.load ty x)(g:Nat)(hx:ev x=.pointer (some ⟨g,0,none⟩)){t:TypeId}{cs:List Value}{W:World}(hb:Blk W g cs t)(d:TypeDesc)
  (hu:P.underlying ty=some d)(hd:(match d with | .struct _ | .array _ _=>true | _=>false)=true)(hi:(P.info? ty).map (·.size)=some cs.length) :
  (execOp ev o).run P W=.ok (.value (.agg cs.toArray)) W:=by
 unfold execOp
 simp only[ho,hx,Instr.loadAt,Instr.sureAddr,Sem.run_bind,Sem.run_pure,Result.andThen_ok,run_loadVar_row W g t ty cs.toArray (0,0) d hb hu hd (by simpa using hi)]
def zl8{α:Type}(m:Nat)(P:Program)(gf:Nat)(lb:Array Value)(encs:α→Array Value)(bs:List Nat)(Pc:List α→World→Prop)(nx:List α→α→Prop)(S Sp:List α→Prop)(w:World):Prop :=
 ∀ (l:Nat) (J Jx:List α→World→Prop) (W:World),Below w.heap.size w W→(∀ pre W,J pre W→Pc pre W)→(∀ pre W W',J pre W→Q W W'→J pre W') →
  (∀ pre x W1,J pre W1→nx pre x→YieldAt Fence.wide (m - 1) P l (encs x) W1 fun e W' =>
   (e=.returned (.bool true)∧J (pre++[x]) W'∧zN bs W1 W')∨(e=.returned (.bool false)∧Jx (pre++[x]) W')) →
  J [] W →
  CallsIn Fence.wide m P gf (#[.func (.yield l) #[] #[]]++lb) W fun e W'=>(∃ v,e=.returned v)∧((∃ xs,S xs∧J xs W')∨(∃ pre,Sp pre∧Jx pre W'))
section
variable {α:Type} {P:Program} {g:Operand} {ps:Array Tmp} {assign body:Code} {R:Exit→Act→World→Prop} {a:Act} {w:World} {m gf:Nat} {lb:Array Value} {bs:List Nat}
theorem zfA(hm:1≤m)(hg:a.eval g=.func (.func gf) #[] lb)(eg:∀ args w,(callFunc gf args).run P w=.ok (.enter gf args) w)
  {encs:α→Array Value}{Pc:List α→World→Prop}{nx:List α→α→Prop}{S Sp:List α→Prop}(hseq:zl8 (m - 1) P gf lb encs bs Pc nx S Sp w)(hbs:∀ k∈bs,k<w.heap.size)(hps:∀ x,(encs x).size=ps.size)
  (I:List α→World→Prop)(Ix:Code→List α→World→Prop)(hPc:∀ pre W,I pre W→Pc pre W)(hI:zl7 w.heap.size I)(hIx:∀ c,zl7 w.heap.size (Ix c))(h0:I [] w)(AS:α→Act→World→Prop)(hAS:∀ x a1 W W',AS x a1 W→KC W W'→AS x a1 W')
  (hassign:∀ (l:Nat) (x:α) (W:World) (K:Act→World→Prop),w.heap.size≤W.heap.size→(∀ a1 W',Q W W'→AS x a1 W'→K a1 W') →
   assign.wpIn (Fence.wide.inRound l) (m - 1 - 1) P (Exit.then K (fun _ _ _=>False)) { tmps:=(ps.zip (encs x)).foldl (fun t (p,v)=>t.setIfInBounds p v) a.tmps,defers:=[] } W)
  (hbody:∀ (l:Nat) (pre:List α) (x:α) (a1:Act) (W:World),I pre W→nx pre x→AS x a1 W→body.wpIn (Fence.wide.inRound l) (m - 1 - 1) P (roundEnd w.heap.size bs I Ix (pre++[x]) W) a1 W)
  (hdone:∀ (D:Nat) (xs:List α) (W:World),w.heap.size≤D→S xs→I xs W→W.heap[D]? = some (.deferred (some []))→R .normal { a with defers:={ target:=.collected D,args:=#[] }::a.defers } W)
  (hstop:∀ (D:Nat) (c:Code) (pre:List α) (W:World),w.heap.size≤D→Sp pre→Ix c pre W→W.heap[D]? = some (.deferred (some []))→c.wpIn Fence.wide m P R { a with defers:={ target:=.collected D,args:=#[] }::a.defers } W) :
  (Code.rangeFunc g ps assign body).wpIn Fence.wide m P R a w:=by
 refine wpIn_rangeFunc fun fn hfn=>?_
 obtain⟨D,hD⟩:∃ D,w.heap.size=D:=⟨_,rfl⟩
 let rec0:LoopState→Option Code→Loop:=fun st pe=>{ state:=st,pending:=pe,fn,tmps:=a.tmps,params:=ps,assign,body,defers:=D }
 let W1:=(w.alloc (.deferred (some []))).alloc (.loop (rec0 .ready none))
 have hsz:W1.heap.size=D+2:=by simp[W1,hD]
 have kD:W1.heap[D]? = some (.deferred (some [])):=by
  rw[← hD];exact(Below.heap_alloc _ _ _ (by simp)).trans (World.alloc_heap_new w _)
 have kL:W1.heap[D+1]? = some (.loop (rec0 .ready none)):=by
  rw[← hD];have:=World.alloc_heap_new (w.alloc (.deferred (some []))) (.loop (rec0 .ready none));rwa[World.size_alloc]at this
 have hb1:Below w.heap.size w W1:=((Below.refl _ w).alloc (Nat.le_refl _) _).alloc (by simp) _
 have hI1:I [] W1:=hI _ _ _ h0 ((KC.alloc _ _).trans (KC.alloc _ _)) hb1
 rw[hD]at hI hIx
 have put:∀ {I':List α→World→Prop} {s:List α} {W:World} {o:Obj} (o':Obj),zl7 D I'→I' s W→W.heap[D+1]? = some o→o.isCells=false→I' s (W.putObj (D+1) o') :=
  fun o' hS h hk hc=>hS _ _ _ h (KC.put o' hk hc) (zba (by omega) hk o')
 have same:∀ {W:World} {o:Obj} (o':Obj),W.heap[D+1]? = some o→(W.putObj (D+1) o').heap[D+1]? = some o':=fun o' hk=>World.putObj_heap_same (Array.getElem?_eq_some_iff.1 hk).1
 have keepD:∀ {W:World} {o:Obj} (o':Obj),W.heap[D]? = some o→(W.putObj (D+1) o').heap[D]? = some o:=fun o' hk=>(World.putObj_heap_other (by omega)).trans hk
 refine⟨D+1,[{ target:=.collected D,args:=#[] }],W1,{ target:=.fn (.func gf) lb,args:=#[.func (.yield (D+1)) #[] #[]] },W1,gf,#[.func (.yield (D+1)) #[] #[]]++lb,W1,?_,?_,fun _ _=>trivial,?_,fun _=>hm,?_⟩
 ·have:=run_enterLoop_outer (P:=P) (w:=w) fn a.tmps ps assign body
  rw[hD]at this
  exact this
 ·simp only[resolve,hg]
  simp[go_sem]
 ·simp[invoke,go_sem,eg]
 refine(hseq (D+1) (fun pre W=>I pre W∧W.heap[D+1]? = some (.loop (rec0 .ready none))∧W.heap[D]? = some (.deferred (some [])))
  (fun pre W=>∃ c,Ix c pre W∧W.heap[D+1]? = some (.loop (rec0 .done (some c)))∧W.heap[D]? = some (.deferred (some []))) W1 hb1 (fun pre W h=>hPc pre W h.1) (fun pre W W' h hq=>⟨hI _ _ _ h.1 (KC.q hq) (hq.mono (Nat.le_of_lt (Array.getElem?_eq_some_iff.1 h.2.2).1)),(hq.block _ (Array.getElem?_eq_some_iff.1 h.2.1).1).trans h.2.1,(hq.block _ (Array.getElem?_eq_some_iff.1 h.2.2).1).trans h.2.2⟩) ?_ ⟨hI1,kL,kD⟩).mono ?_
 ·rintro pre x W ⟨hi,hl,hk⟩ hnx
  have hy:=run_yield (P:=P) (args:=encs x) hl (hps x)
  have hDW:D+1<W.heap.size:=(Array.getElem?_eq_some_iff.1 hl).1
  refine⟨fn,_,assign,body,hy,roundIn_of_wpIn hfn (hassign _ x W _ (by omega) fun a1 Wa hqa hAs=>?_)⟩
  have hla:=(hqa.block _ hDW).trans hl
  have hka:=(hqa.block D (by omega)).trans hk
  have hia:=hI _ _ _ hi (KC.q hqa) (hqa.mono (by omega))
  refine⟨_,run_beginRound hla rfl,?_⟩
  have hl2:=same (.loop { rec0 .ready none with state:=.busy }) hla
  have hk2:=keepD (.loop { rec0 .ready none with state:=.busy }) hka
  have hbs':∀ k∈bs,k<D+1:=fun k hk=>by have:=hbs k hk;omega
  have hw2:zN bs W (Wa.putObj (D+1) (.loop { rec0 .ready none with state:=.busy })):=(zN.q hqa).trans (zN.put hbs' _ _)
  refine wpIn_mono (hbody _ pre x a1 _ (put _ hI hia hla rfl) hnx (hAS _ _ _ _ hAs (KC.put _ hla rfl))) ?_
  have fin:∀ (jump:Option Code) (W3:World),KeepsFrom w.heap.size (Wa.putObj (D+1) (.loop { rec0 .ready none with state:=.busy })) W3 →
    (Instr.endRound (D+1) jump).run P W3=.ok (.bool jump.isNone) (W3.putObj (D+1) (.loop (rec0 (if jump.isNone then .ready else .done) jump))) ∧
    W3.heap[D+1]? = some (.loop { rec0 .ready none with state:=.busy })∧W3.heap[D]? = some (.deferred (some [])):=fun jump W3 hk3=>by
   have hl3:=hk3.same _ _ (by omega) hl2 rfl
   exact⟨run_endRound (P:=P) jump hl3,hl3,hk3.same _ _ (by omega) hk2 rfl⟩
  rintro e a3 W3 hp
  cases e with
  | normal =>
   obtain⟨hk3,hb3,hi3⟩:=hp
   obtain⟨hr,hl3,hd3⟩:=fin none W3 hk3
   exact⟨_,_,hr,.inl ⟨rfl,⟨put _ hI hi3 hl3 rfl,same _ hl3,keepD _ hd3⟩,(hw2.trans hb3).trans (zN.put hbs' _ _)⟩⟩
  | ret =>
   obtain⟨hr,hl3,hd3⟩:=fin (some .ret) W3 hp.1
   exact⟨_,_,hr,.inr ⟨rfl,.ret,put _ (hIx _) hp.2 hl3 rfl,same _ hl3,keepD _ hd3⟩⟩
  | exit id =>
   obtain⟨hr,hl3,hd3⟩:=fin (some (.exit id)) W3 hp.1
   exact⟨_,_,hr,.inr ⟨rfl,.exit id,put _ (hIx _) hp.2 hl3 rfl,same _ hl3,keepD _ hd3⟩⟩
  | goto t =>
   obtain⟨hr,hl3,hd3⟩:=fin (some (.goto t)) W3 hp.1
   exact⟨_,_,hr,.inr ⟨rfl,.goto t,put _ (hIx _) hp.2 hl3 rfl,same _ hl3,keepD _ hd3⟩⟩
  | panic ch=>exact hp.elim
  | outgrown=>exact hp.elim
 ·rintro e W2 ⟨⟨v,rfl⟩,(⟨xs,hS,hi,hl,hk⟩|⟨pre,hSp,c,hi,hl,hk⟩)⟩
  ·exact⟨none,_,run_endLoop (P:=P) hl (by simp[rec0]),hdone D xs _ (by omega) hS (put _ hI hi hl rfl) (keepD _ hk)⟩
  ·exact⟨some c,_,run_endLoop (P:=P) hl (by simp[rec0]),hstop D c pre _ (by omega) hSp (put _ (hIx c) hi hl rfl) (keepD _ hk)⟩
end
def roundUp(B:Nat)(bs:List Nat)(I:Nat→World→Prop)(Ix:Code→World→Prop)(k:Nat)(W:World):Exit→Act→World→Prop
 | .normal,_,W'=>KeepsFrom B W W'∧zN bs W W'∧I k W'
 | .ret,_,W'=>KeepsFrom B W W'∧Ix .ret W'
 | .exit id,_,W'=>KeepsFrom B W W'∧Ix (.exit id) W'
 | .goto t,_,W'=>KeepsFrom B W W'∧Ix (.goto t) W'
 | .panic _,_,_=>False
 | .outgrown,_,_=>False
section
variable {P:Program} {g:Operand} {ps:Array Tmp} {assign body:Code} {R:Exit→Act→World→Prop} {a:Act} {w:World} {m gf N:Nat} {lb:Array Value} {bs:List Nat}
theorem zbl(hm:1≤m)(hg:a.eval g=.func (.func gf) #[] lb)(eg:∀ args w,(callFunc gf args).run P w=.ok (.enter gf args) w)
  {encs:PlN N→Array Value}(hseq:zl8 (m - 1) P gf lb encs bs (fun _ _=>True) zuy (fun ys=>UpN N ys) (fun pre=>∃ k,k≤N∧UpN k pre) w)(hbs:∀ k∈bs,k<w.heap.size)(hps:∀ x,(encs x).size=ps.size)
  (I:Nat→World→Prop)(Ix:Code→World→Prop)(hI:∀ k W W',I k W→KC W W'→Below w.heap.size W W'→I k W')(hIx:∀ c W W',Ix c W→KC W W'→Below w.heap.size W W'→Ix c W')(h0:I 0 w)(AS:PlN N→Act→World→Prop)(hAS:∀ x a1 W W',AS x a1 W→KC W W'→AS x a1 W')
  (hassign:∀ (l:Nat) (x:PlN N) (W:World) (K:Act→World→Prop),w.heap.size≤W.heap.size→(∀ a1 W',Q W W'→AS x a1 W'→K a1 W') →
   assign.wpIn (Fence.wide.inRound l) (m - 1 - 1) P (Exit.then K (fun _ _ _=>False)) { tmps:=(ps.zip (encs x)).foldl (fun t (p,v)=>t.setIfInBounds p v) a.tmps,defers:=[] } W)
  (hbody:∀ (l k:Nat) (hk:k<N) (a1:Act) (W:World),I k W→AS ⟨k,hk⟩ a1 W→body.wpIn (Fence.wide.inRound l) (m - 1 - 1) P (roundUp w.heap.size bs I Ix (k+1) W) a1 W)
  (hdone:∀ (D:Nat) (W:World),w.heap.size≤D→I N W→W.heap[D]? = some (.deferred (some []))→R .normal { a with defers:={ target:=.collected D,args:=#[] }::a.defers } W)
  (hstop:∀ (D:Nat) (c:Code) (W:World),w.heap.size≤D→Ix c W→W.heap[D]? = some (.deferred (some []))→c.wpIn Fence.wide m P R { a with defers:={ target:=.collected D,args:=#[] }::a.defers } W) :
  (Code.rangeFunc g ps assign body).wpIn Fence.wide m P R a w:=by
 refine zfA hm hg eg hseq hbs hps (fun pre W=>I pre.length W) (fun c _ W=>Ix c W) (fun _ _ _=>trivial) (fun pre W W' h k hb=>hI _ W W' h k hb) (fun c _ W W' h k hb=>hIx c W W' h k hb) h0 AS hAS hassign ?_ ?_ ?_
 ·intro l pre x a1 W hi hx hs
  obtain⟨k,hk⟩:=x
  have e:pre.length=k:=hx.symm
  subst e
  refine wpIn_mono (hbody l pre.length hk a1 W hi hs) ?_
  intro e a3 W3 hp
  cases e with
  | normal=>exact⟨hp.1,hp.2.1,by
   show I (pre++[_]).length W3
   rw[List.length_append,List.length_singleton];exact hp.2.2⟩
  | ret=>exact hp
  | exit id=>exact hp
  | goto t=>exact hp
  | panic ch=>exact hp
  | outgrown=>exact hp
 ·intro D xs W hD hS hi hk
  exact hdone D W hD (by rw[hS.len]at hi;exact hi) hk
 ·intro D c pre W hD hSp hi hk
  exact hstop D c W hD hi hk
end
structure Sd where
 x:Int
 y:Int
 rise:Int
 run:Int
 gable:Bool
 plate:Int
 over:Int
def sdC(s:Sd):List Value:=[.int .i64 s.x,.int .i64 s.y,.int .i64 s.rise,.int .i64 s.run,.bool s.gable,.int .i64 s.plate,.int .i64 s.over]
def sd0:Sd:=⟨0,0,0,0,false,0,0⟩
def zcN(r:List Sd)(i:Nat):Sd:=r.getD i sd0
structure Arn where
 b:Sd
 o:Sd
 h:Sd
def arn(r:List Sd)(i:Nat):Arn:=⟨zcN r ((i+r.length - 1) % r.length),zcN r i,zcN r ((i+1) % r.length)⟩
def zgk(a:Arn):List Value:=sdC a.b++sdC a.o++sdC a.h
def zj0(w:World)(v:Value)(R:List (List Sd)):Prop:=∃ a cap,v=.slice a R.length cap∧∀ i (h:i<R.length),∃ b o vi,a=some ⟨b,o,none⟩∧b<w.heap.size∧w.cell? ⟨b,o+i,none⟩=some vi∧zdc 7 sdC w vi R[i]
theorem zj0.keep{w w':World}{v:Value}{R:List (List Sd)}(h:zj0 w v R)(hq:Q w w'):zj0 w' v R:=by
 obtain⟨a,cap,rfl,hc⟩:=h
 refine⟨a,cap,rfl,fun i hi=>?_⟩
 obtain⟨b,o,vi,ha,hb,h,hr⟩:=hc i hi
 exact⟨b,o,vi,ha,Nat.lt_of_lt_of_le hb hq.size,(hq.cell (p:=⟨b,o+i,none⟩) hb).trans h,hr.keep hq⟩
def zao(s:Sd):Bool:=(if s.gable then s.rise == 0 && s.run == 0 else decide (1≤s.rise) && decide (s.rise≤48) && (decide (1≤s.run) && decide (s.run≤48))) &&
 (decide (0≤s.x) && decide (s.x≤65536) && (decide (0≤s.y) && decide (s.y≤65536)) && (decide (0≤s.plate) && decide (s.plate≤65536)) && (decide (0≤s.over) && decide (s.over≤65536)))
structure Rgd (s:Sd):Prop where
 x0:0≤s.x
 x1:s.x≤65536
 y0:0≤s.y
 y1:s.y≤65536
 p0:0≤s.plate
 p1:s.plate≤65536
 o0:0≤s.over
 o1:s.over≤65536
 g:s.gable=true→s.rise=0∧s.run=0
 n:s.gable=false→1≤s.rise∧s.rise≤48∧1≤s.run∧s.run≤48
theorem zsZ{s:Sd}(h:zao s=true):Rgd s:=by
 obtain⟨x,y,rise,run,gable,plate,over⟩:=s
 unfold zao at h
 simp only[Bool.and_eq_true,decide_eq_true_eq]at h
 obtain⟨h0,⟨⟨⟨h1,h2⟩,h3,h4⟩,h5,h6⟩,h7,h8⟩:=h
 refine⟨h1,h2,h3,h4,h5,h6,h7,h8,fun hg=>?_,fun hg=>?_⟩
 ·simp only at hg
  subst hg
  simpa using h0
 ·simp only at hg
  subst hg
  simp only[Bool.false_eq_true,if_false,Bool.and_eq_true,decide_eq_true_eq]at h0
  exact⟨h0.1.1,h0.1.2,h0.2.1,h0.2.2⟩
theorem zfI(f:Nat→Bool)(k:Nat):(List.range (k+1)).any f=((List.range k).any f || f k):=by rw[List.range_succ,List.any_append];simp
def zfo(a b c d:Int):Int:=a*d - b*c
def Arn.vx(a:Arn):Int:=a.o.x - a.b.x
def Arn.vy(a:Arn):Int:=a.o.y - a.b.y
def Arn.wx(a:Arn):Int:=a.h.x - a.o.x
def Arn.wy(a:Arn):Int:=a.h.y - a.o.y
def zq3(a:Arn):Bool:=decide (0<zfo a.vx a.vy a.wx a.wy)
def zfE(a:Arn):Bool:=((a.wx == 0) == (a.wy == 0)) || ((a.vx == 0) == (a.wx == 0))
def zat(r:List Sd):Bool:=decide (4≤r.length) && (List.range r.length).all fun i=>!zfE (arn r i)
def zeO(r:List Sd):Nat→Int
 | 0=>0
 | k+1=>zeO r k+zfo (arn r k).o.x (arn r k).o.y (arn r k).h.x (arn r k).h.y
def zgM(a:Arn)(px py:Int):Bool:=(a.wx == 0) && (decide (px<a.o.x) && ((decide (py<a.o.y)) != (decide (py<a.h.y))))
def zcB(r:List Sd)(px py:Int):Nat→Bool
 | 0=>false
 | k+1=>if zgM (arn r k) px py then !zcB r px py k else zcB r px py k
structure Bx where
 lx:Int
 ly:Int
 hx:Int
 hy:Int
def zt3(a:Arn):Bx:=⟨min a.o.x a.h.x,min a.o.y a.h.y,max a.o.x a.h.x,max a.o.y a.h.y⟩
def zmJ(a b:Bx):Bool:=decide (a.lx≤b.hx) && (decide (b.lx≤a.hx) && (decide (a.ly≤b.hy) && decide (b.ly≤a.hy)))
def zi5(r:List Sd)(n:Nat):List (Bx × Nat × Nat):=(List.range r.length).map fun i=>(zt3 (arn r i),n,i)
def zbO(R:List (List Sd)):Nat→List (Bx × Nat × Nat)
 | 0=>[]
 | k+1=>zbO R k++zi5 (R.getD k []) k
def zcv(l:List (Bx × Nat × Nat))(i:Nat):Bx × Nat × Nat:=l.getD i (⟨0,0,0,0⟩,0,0)
def zdy(R:List (List Sd))(a b:Bx × Nat × Nat):Bool:=!((a.2.1 == b.2.1) && ((((a.2.2:Int) - b.2.2 == 1) || ((a.2.2:Int) - b.2.2 == ((R.getD a.2.1 []).length:Int) - 1)))) && zmJ a.1 b.1
def zdH(R:List (List Sd)):Bool:=(List.range (zbO R R.length).length).any fun i=>(List.range i).any fun k=>zdy R (zcv (zbO R R.length) i) (zcv (zbO R R.length) k)
def ringAt(R:List (List Sd))(i:Nat):List Sd:=R.getD i []
def zkH(R:List (List Sd))(i k:Nat):Bool:=(k == i) || ((i == 0) || (zcB (ringAt R k) (zcN (ringAt R i) 0).x (zcN (ringAt R i) 0).y (ringAt R k).length == (k == 0)))
def zb7(R:List (List Sd)):Bool:=(List.range R.length).all fun i=>(decide (0<zeO (ringAt R i) (ringAt R i).length) == (i == 0)) && (List.range R.length).all fun k=>zkH R i k
def zk8(a:Arn):Bool:=zq3 a || !(a.o.gable || (a.b.gable || (a.o.plate != a.b.plate)))
def zjw(r:List Sd):Bool:=(List.range r.length).all fun i=>zk8 (arn r i)
def zuu(r:List Sd):Bool:=(List.range r.length).any fun i=>!(arn r i).o.gable
def zdT(R:List (List Sd)):Bool:=((List.range R.length).all fun i=>zjw (ringAt R i)) && (List.range R.length).any fun i=>zuu (ringAt R i)
def zaF(R:List (List Sd)):Nat:=(R.map List.length).sum
def zdR(R:List (List Sd)):Int :=
 if (R.any fun r=>decide (r.length=0))=true then 5
 else if zaF R=0 then 5
 else if 24<zaF R then 4
 else if (R.flatten.any fun s=>!zao s)=true then 2
 else if (R.any fun r=>!zat r)=true then 14
 else if zdH R=true then 15
 else if (!zb7 R || !zdT R)=true then 14
 else 0
structure PlanOk (R:List (List Sd)):Prop where
 rg:∀ s∈R.flatten,Rgd s
 four:∀ r∈R,4≤r.length
 le:zaF R≤24
 pos:0<zaF R
theorem zls{R:List (List Sd)}(h:zdR R=0):PlanOk R:=by
 unfold zdR at h
 by_cases h1:(R.any fun r=>decide (r.length=0))=true
 ·rw[if_pos h1]at h;omega
 rw[if_neg h1]at h
 by_cases h2:zaF R=0
 ·rw[if_pos h2]at h;omega
 rw[if_neg h2]at h
 by_cases h3:24<zaF R
 ·rw[if_pos h3]at h;omega
 rw[if_neg h3]at h
 by_cases h4:(R.flatten.any fun s=>!zao s)=true
 ·rw[if_pos h4]at h;omega
 rw[if_neg h4]at h
 by_cases h5:(R.any fun r=>!zat r)=true
 ·rw[if_pos h5]at h;omega
 refine⟨fun s hs=>zsZ ?_,fun r hr=>?_,by omega,by omega⟩
 ·rcases hb:zao s with _ | _
  ·exact absurd (List.any_eq_true.2 ⟨s,hs,by rw[hb];rfl⟩) h4
  ·rfl
 ·rcases hb:zat r with _ | _
  ·exact absurd (List.any_eq_true.2 ⟨r,hr,by rw[hb];rfl⟩) h5
  ·unfold zat at hb
   simp only[Bool.and_eq_true,decide_eq_true_eq]at hb
   exact hb.1
theorem count_flatten(R:List (List Sd)):R.flatten.length=zaF R:=List.length_flatten
end
end Go.Proofs.YtjnhmfcklodfdaaGreatDoor
