/-
  Loops over an iterator that counts upward; the sides of a plan.; What makes a plan valid, as the program asks it. Mathematics.; Walks of package plan: corners, vectors, ranges, the iterator over the sides of a ring.
-/
import Derived.Test.YtapnkgdnflofbaaGreatDoorCH12
set_option maxRecDepth 100000
set_option maxHeartbeats 4000000
namespace Go.Proofs.YtapnkgdnflofbaaGreatDoor
section
open Go.RowKit Kp
def zgD{α:Type}(m:Nat)(P:Program)(gf:Nat)(lb:Array Value)(encs:α→Array Value)(bs:List Nat)(Pc:List α→World→Prop)(nx:List α→α→Prop)(S Sp:List α→Prop)(w:World):Prop :=
 ∀ (l:Nat) (J Jx:List α→World→Prop) (W:World),Below w.heap.size w W→(∀ pre W,J pre W→Pc pre W)→(∀ pre W W',J pre W→Q W W'→J pre W') →
  (∀ pre x W1,J pre W1→nx pre x→YieldAt Fence.wide (m - 1) P l (encs x) W1 fun e W' =>
   (e=.returned (.bool true)∧J (pre++[x]) W'∧zI bs W1 W')∨(e=.returned (.bool false)∧Jx (pre++[x]) W')) →
  J [] W →
  CallsIn Fence.wide m P gf (#[.func (.yield l) #[] #[]]++lb) W fun e W'=>(∃ v,e=.returned v)∧((∃ xs,S xs∧J xs W')∨(∃ pre,Sp pre∧Jx pre W'))
section
variable {α:Type} {P:Program} {g:Operand} {ps:Array Tmp} {assign body:Code} {R:Exit→Act→World→Prop} {a:Act} {w:World} {m gf:Nat} {lb:Array Value} {bs:List Nat}
theorem zcK(hm:1≤m)(hg:a.eval g=.func (.func gf) #[] lb)(eg:∀ args w,(callFunc gf args).run P w=.ok (.enter gf args) w)
  {encs:α→Array Value}{Pc:List α→World→Prop}{nx:List α→α→Prop}{S Sp:List α→Prop}(hseq:zgD (m - 1) P gf lb encs bs Pc nx S Sp w)(hbs:∀ k∈bs,k<w.heap.size)(hps:∀ x,(encs x).size=ps.size)
  (I:List α→World→Prop)(Ix:Code→List α→World→Prop)(hPc:∀ pre W,I pre W→Pc pre W)(hI:zk9 w.heap.size I)(hIx:∀ c,zk9 w.heap.size (Ix c))(h0:I [] w)(AS:α→Act→World→Prop)(hAS:∀ x a1 W W',AS x a1 W→KC W W'→AS x a1 W')
  (hassign:∀ (l:Nat) (x:α) (W:World) (K:Act→World→Prop),w.heap.size≤W.heap.size→(∀ a1 W',Q W W'→AS x a1 W'→K a1 W') →
   assign.wpIn (Fence.wide.inRound l) (m - 1 - 1) P (Exit.then K (fun _ _ _=>False)) { tmps:=(ps.zip (encs x)).foldl (fun t (p,v)=>t.setIfInBounds p v) a.tmps,defers:=[] } W)
  (hbody:∀ (l:Nat) (pre:List α) (x:α) (a1:Act) (W:World),I pre W→nx pre x→AS x a1 W→body.wpIn (Fence.wide.inRound l) (m - 1 - 1) P (roundEnd w.heap.size bs I Ix (pre++[x]) W) a1 W)
  (hdone:∀ (D:Nat) (xs:List α) (W:World),w.heap.size≤D→S xs→I xs W→W.heap[D]? = some (.deferred (some []))→R .normal { a with defers:={ target:=.collected D,args:=#[] }::a.defers } W)
  (hstop:∀ (D:Nat) (c:Code) (pre:List α) (W:World),w.heap.size≤D→Sp pre→Ix c pre W→W.heap[D]? = some (.deferred (some []))→c.wpIn Fence.wide m P R { a with defers:={ target:=.collected D,args:=#[] }::a.defers } W) :
  (Code.rangeFunc g ps assign body).wpIn Fence.wide m P R a w:=by
 refine wpIn_rangeFunc fun fn hfn=>?_
 obtain⟨D,hD⟩:∃ D,w.heap.size=D:=⟨_,rfl⟩
 let rec0:LoopState→Option Code→Loop:=fun st pe=>{ state:=st,pending:=pe,fn,tmps:=a.tmps,params:=ps,assign,body,defers:=D }
 let W1:=(w.alloc (.deferred (some []))).alloc (.loop (rec0 .ready none))
 have hsz:W1.heap.size=D+2:=by simp[W1,hD]
 have kD:W1.heap[D]? = some (.deferred (some [])):=by
  rw[← hD];exact(Below.heap_alloc _ _ _ (by simp)).trans (World.alloc_heap_new w _)
 have kL:W1.heap[D+1]? = some (.loop (rec0 .ready none)):=by
  rw[← hD];have:=World.alloc_heap_new (w.alloc (.deferred (some []))) (.loop (rec0 .ready none));rwa[World.size_alloc]at this
 have hb1:Below w.heap.size w W1:=((Below.refl _ w).alloc (Nat.le_refl _) _).alloc (by simp) _
 have hI1:I [] W1:=hI _ _ _ h0 ((KC.alloc _ _).trans (KC.alloc _ _)) hb1
 rw[hD]at hI hIx
 have put:∀ {I':List α→World→Prop} {s:List α} {W:World} {o:Obj} (o':Obj),zk9 D I'→I' s W→W.heap[D+1]? = some o→o.isCells=false→I' s (W.putObj (D+1) o') :=
  fun o' hS h hk hc=>hS _ _ _ h (KC.put o' hk hc) (zaQ (by omega) hk o')
 have same:∀ {W:World} {o:Obj} (o':Obj),W.heap[D+1]? = some o→(W.putObj (D+1) o').heap[D+1]? = some o':=fun o' hk=>World.putObj_heap_same (Array.getElem?_eq_some_iff.1 hk).1
 have keepD:∀ {W:World} {o:Obj} (o':Obj),W.heap[D]? = some o→(W.putObj (D+1) o').heap[D]? = some o:=fun o' hk=>(World.putObj_heap_other (by omega)).trans hk
 refine⟨D+1,[{ target:=.collected D,args:=#[] }],W1,{ target:=.fn (.func gf) lb,args:=#[.func (.yield (D+1)) #[] #[]] },W1,gf,#[.func (.yield (D+1)) #[] #[]]++lb,W1,?_,?_,fun _ _=>trivial,?_,fun _=>hm,?_⟩
 ·have:=run_enterLoop_outer (P:=P) (w:=w) fn a.tmps ps assign body
  rw[hD]at this
  exact this
 ·simp only[resolve,hg]
  simp[go_sem]
 ·simp[invoke,go_sem,eg]
 refine(hseq (D+1) (fun pre W=>I pre W∧W.heap[D+1]? = some (.loop (rec0 .ready none))∧W.heap[D]? = some (.deferred (some [])))
  (fun pre W=>∃ c,Ix c pre W∧W.heap[D+1]? = some (.loop (rec0 .done (some c)))∧W.heap[D]? = some (.deferred (some []))) W1 hb1 (fun pre W h=>hPc pre W h.1) (fun pre W W' h hq=>⟨hI _ _ _ h.1 (KC.q hq) (hq.mono (Nat.le_of_lt (Array.getElem?_eq_some_iff.1 h.2.2).1)),(hq.block _ (Array.getElem?_eq_some_iff.1 h.2.1).1).trans h.2.1,(hq.block _ (Array.getElem?_eq_some_iff.1 h.2.2).1).trans h.2.2⟩) ?_ ⟨hI1,kL,kD⟩).mono ?_
 ·rintro pre x W ⟨hi,hl,hk⟩ hnx
  have hy:=run_yield (P:=P) (args:=encs x) hl (hps x)
  have hDW:D+1<W.heap.size:=(Array.getElem?_eq_some_iff.1 hl).1
  refine⟨fn,_,assign,body,hy,roundIn_of_wpIn hfn (hassign _ x W _ (by omega) fun a1 Wa hqa hAs=>?_)⟩
  have hla:=(hqa.block _ hDW).trans hl
  have hka:=(hqa.block D (by omega)).trans hk
  have hia:=hI _ _ _ hi (KC.q hqa) (hqa.mono (by omega))
  refine⟨_,run_beginRound hla rfl,?_⟩
  have hl2:=same (.loop { rec0 .ready none with state:=.busy }) hla
  have hk2:=keepD (.loop { rec0 .ready none with state:=.busy }) hka
  have hbs':∀ k∈bs,k<D+1:=fun k hk=>by have:=hbs k hk;omega
  have hw2:zI bs W (Wa.putObj (D+1) (.loop { rec0 .ready none with state:=.busy })):=(zI.q hqa).trans (zI.put hbs' _ _)
  refine wpIn_mono (hbody _ pre x a1 _ (put _ hI hia hla rfl) hnx (hAS _ _ _ _ hAs (KC.put _ hla rfl))) ?_
  have fin:∀ (jump:Option Code) (W3:World),KeepsFrom w.heap.size (Wa.putObj (D+1) (.loop { rec0 .ready none with state:=.busy })) W3 →
    (Instr.endRound (D+1) jump).run P W3=.ok (.bool jump.isNone) (W3.putObj (D+1) (.loop (rec0 (if jump.isNone then .ready else .done) jump))) ∧
    W3.heap[D+1]? = some (.loop { rec0 .ready none with state:=.busy })∧W3.heap[D]? = some (.deferred (some [])):=fun jump W3 hk3=>by
   have hl3:=hk3.same _ _ (by omega) hl2 rfl
   exact⟨run_endRound (P:=P) jump hl3,hl3,hk3.same _ _ (by omega) hk2 rfl⟩
  rintro e a3 W3 hp
  cases e with
  | normal =>
   obtain⟨hk3,hb3,hi3⟩:=hp
   obtain⟨hr,hl3,hd3⟩:=fin none W3 hk3
   exact⟨_,_,hr,.inl ⟨rfl,⟨put _ hI hi3 hl3 rfl,same _ hl3,keepD _ hd3⟩,(hw2.trans hb3).trans (zI.put hbs' _ _)⟩⟩
  | ret =>
   obtain⟨hr,hl3,hd3⟩:=fin (some .ret) W3 hp.1
   exact⟨_,_,hr,.inr ⟨rfl,.ret,put _ (hIx _) hp.2 hl3 rfl,same _ hl3,keepD _ hd3⟩⟩
  | exit id =>
   obtain⟨hr,hl3,hd3⟩:=fin (some (.exit id)) W3 hp.1
   exact⟨_,_,hr,.inr ⟨rfl,.exit id,put _ (hIx _) hp.2 hl3 rfl,same _ hl3,keepD _ hd3⟩⟩
  | goto t =>
   obtain⟨hr,hl3,hd3⟩:=fin (some (.goto t)) W3 hp.1
   exact⟨_,_,hr,.inr ⟨rfl,.goto t,put _ (hIx _) hp.2 hl3 rfl,same _ hl3,keepD _ hd3⟩⟩
  | panic ch=>exact hp.elim
  | outgrown=>exact hp.elim
 ·rintro e W2 ⟨⟨v,rfl⟩,(⟨xs,hS,hi,hl,hk⟩|⟨pre,hSp,c,hi,hl,hk⟩)⟩
  ·exact⟨none,_,run_endLoop (P:=P) hl (by simp[rec0]),hdone D xs _ (by omega) hS (put _ hI hi hl rfl) (keepD _ hk)⟩
  ·exact⟨some c,_,run_endLoop (P:=P) hl (by simp[rec0]),hstop D c pre _ (by omega) hSp (put _ (hIx c) hi hl rfl) (keepD _ hk)⟩
end
def roundUp(B:Nat)(bs:List Nat)(I:Nat→World→Prop)(Ix:Code→World→Prop)(k:Nat)(W:World):Exit→Act→World→Prop
 | .normal,_,W'=>KeepsFrom B W W'∧zI bs W W'∧I k W'
 | .ret,_,W'=>KeepsFrom B W W'∧Ix .ret W'
 | .exit id,_,W'=>KeepsFrom B W W'∧Ix (.exit id) W'
 | .goto t,_,W'=>KeepsFrom B W W'∧Ix (.goto t) W'
 | .panic _,_,_=>False
 | .outgrown,_,_=>False
section
variable {P:Program} {g:Operand} {ps:Array Tmp} {assign body:Code} {R:Exit→Act→World→Prop} {a:Act} {w:World} {m gf N:Nat} {lb:Array Value} {bs:List Nat}
theorem zbb(hm:1≤m)(hg:a.eval g=.func (.func gf) #[] lb)(eg:∀ args w,(callFunc gf args).run P w=.ok (.enter gf args) w)
  {encs:PlN N→Array Value}(hseq:zgD (m - 1) P gf lb encs bs (fun _ _=>True) zr8 (fun ys=>UpN N ys) (fun pre=>∃ k,k≤N∧UpN k pre) w)(hbs:∀ k∈bs,k<w.heap.size)(hps:∀ x,(encs x).size=ps.size)
  (I:Nat→World→Prop)(Ix:Code→World→Prop)(hI:∀ k W W',I k W→KC W W'→Below w.heap.size W W'→I k W')(hIx:∀ c W W',Ix c W→KC W W'→Below w.heap.size W W'→Ix c W')(h0:I 0 w)(AS:PlN N→Act→World→Prop)(hAS:∀ x a1 W W',AS x a1 W→KC W W'→AS x a1 W')
  (hassign:∀ (l:Nat) (x:PlN N) (W:World) (K:Act→World→Prop),w.heap.size≤W.heap.size→(∀ a1 W',Q W W'→AS x a1 W'→K a1 W') →
   assign.wpIn (Fence.wide.inRound l) (m - 1 - 1) P (Exit.then K (fun _ _ _=>False)) { tmps:=(ps.zip (encs x)).foldl (fun t (p,v)=>t.setIfInBounds p v) a.tmps,defers:=[] } W)
  (hbody:∀ (l k:Nat) (hk:k<N) (a1:Act) (W:World),I k W→AS ⟨k,hk⟩ a1 W→body.wpIn (Fence.wide.inRound l) (m - 1 - 1) P (roundUp w.heap.size bs I Ix (k+1) W) a1 W)
  (hdone:∀ (D:Nat) (W:World),w.heap.size≤D→I N W→W.heap[D]? = some (.deferred (some []))→R .normal { a with defers:={ target:=.collected D,args:=#[] }::a.defers } W)
  (hstop:∀ (D:Nat) (c:Code) (W:World),w.heap.size≤D→Ix c W→W.heap[D]? = some (.deferred (some []))→c.wpIn Fence.wide m P R { a with defers:={ target:=.collected D,args:=#[] }::a.defers } W) :
  (Code.rangeFunc g ps assign body).wpIn Fence.wide m P R a w:=by
 refine zcK hm hg eg hseq hbs hps (fun pre W=>I pre.length W) (fun c _ W=>Ix c W) (fun _ _ _=>trivial) (fun pre W W' h k hb=>hI _ W W' h k hb) (fun c _ W W' h k hb=>hIx c W W' h k hb) h0 AS hAS hassign ?_ ?_ ?_
 ·intro l pre x a1 W hi hx hs
  obtain⟨k,hk⟩:=x
  have e:pre.length=k:=hx.symm
  subst e
  refine wpIn_mono (hbody l pre.length hk a1 W hi hs) ?_
  intro e a3 W3 hp
  cases e with
  | normal=>exact⟨hp.1,hp.2.1,by
   show I (pre++[_]).length W3
   rw[List.length_append,List.length_singleton];exact hp.2.2⟩
  | ret=>exact hp
  | exit id=>exact hp
  | goto t=>exact hp
  | panic ch=>exact hp
  | outgrown=>exact hp
 ·intro D xs W hD hS hi hk
  exact hdone D W hD (by rw[hS.len]at hi;exact hi) hk
 ·intro D c pre W hD hSp hi hk
  exact hstop D c W hD hi hk
end
structure Sd where
 x:Int
 y:Int
 rise:Int
 run:Int
 gable:Bool
 plate:Int
 over:Int
def sdC(s:Sd):List Value:=[.int .i64 s.x,.int .i64 s.y,.int .i64 s.rise,.int .i64 s.run,.bool s.gable,.int .i64 s.plate,.int .i64 s.over]
def sd0:Sd:=⟨0,0,0,0,false,0,0⟩
def zcf(r:List Sd)(i:Nat):Sd:=r.getD i sd0
structure Arn where
 b:Sd
 o:Sd
 h:Sd
def arn(r:List Sd)(i:Nat):Arn:=⟨zcf r ((i+r.length - 1) % r.length),zcf r i,zcf r ((i+1) % r.length)⟩
def zfN(a:Arn):List Value:=sdC a.b++sdC a.o++sdC a.h
def zi9(w:World)(v:Value)(R:List (List Sd)):Prop:=∃ a cap,v=.slice a R.length cap∧∀ i (h:i<R.length),∃ b o vi,a=some ⟨b,o,none⟩∧b<w.heap.size∧w.cell? ⟨b,o+i,none⟩=some vi∧zba 7 sdC w vi R[i]
theorem zi9.keep{w w':World}{v:Value}{R:List (List Sd)}(h:zi9 w v R)(hq:Q w w'):zi9 w' v R:=by
 obtain⟨a,cap,rfl,hc⟩:=h
 refine⟨a,cap,rfl,fun i hi=>?_⟩
 obtain⟨b,o,vi,ha,hb,h,hr⟩:=hc i hi
 exact⟨b,o,vi,ha,Nat.lt_of_lt_of_le hb hq.size,(hq.cell (p:=⟨b,o+i,none⟩) hb).trans h,hr.keep hq⟩
def zah(s:Sd):Bool:=(if s.gable then s.rise == 0 && s.run == 0 else decide (1≤s.rise) && decide (s.rise≤48) && (decide (1≤s.run) && decide (s.run≤48))) &&
 (decide (0≤s.x) && decide (s.x≤65536) && (decide (0≤s.y) && decide (s.y≤65536)) && (decide (0≤s.plate) && decide (s.plate≤65536)) && (decide (0≤s.over) && decide (s.over≤65536)))
structure Rgd (s:Sd):Prop where
 x0:0≤s.x
 x1:s.x≤65536
 y0:0≤s.y
 y1:s.y≤65536
 p0:0≤s.plate
 p1:s.plate≤65536
 o0:0≤s.over
 o1:s.over≤65536
 g:s.gable=true→s.rise=0∧s.run=0
 n:s.gable=false→1≤s.rise∧s.rise≤48∧1≤s.run∧s.run≤48
theorem zr5{s:Sd}(h:zah s=true):Rgd s:=by
 obtain⟨x,y,rise,run,gable,plate,over⟩:=s
 unfold zah at h
 simp only[Bool.and_eq_true,decide_eq_true_eq]at h
 obtain⟨h0,⟨⟨⟨h1,h2⟩,h3,h4⟩,h5,h6⟩,h7,h8⟩:=h
 refine⟨h1,h2,h3,h4,h5,h6,h7,h8,fun hg=>?_,fun hg=>?_⟩
 ·simp only at hg
  subst hg
  simpa using h0
 ·simp only at hg
  subst hg
  simp only[Bool.false_eq_true,if_false,Bool.and_eq_true,decide_eq_true_eq]at h0
  exact⟨h0.1.1,h0.1.2,h0.2.1,h0.2.2⟩
theorem zff(f:Nat→Bool)(k:Nat):(List.range (k+1)).any f=((List.range k).any f || f k):=by rw[List.range_succ,List.any_append];simp
def zeW(a b c d:Int):Int:=a*d - b*c
def Arn.vx(a:Arn):Int:=a.o.x - a.b.x
def Arn.vy(a:Arn):Int:=a.o.y - a.b.y
def Arn.wx(a:Arn):Int:=a.h.x - a.o.x
def Arn.wy(a:Arn):Int:=a.h.y - a.o.y
def zqb(a:Arn):Bool:=decide (0<zeW a.vx a.vy a.wx a.wy)
def zfb(a:Arn):Bool:=((a.wx == 0) == (a.wy == 0)) || ((a.vx == 0) == (a.wx == 0))
def zan(r:List Sd):Bool:=decide (4≤r.length) && (List.range r.length).all fun i=>!zfb (arn r i)
def zes(r:List Sd):Nat→Int
 | 0=>0
 | k+1=>zes r k+zeW (arn r k).o.x (arn r k).o.y (arn r k).h.x (arn r k).h.y
def zgd(a:Arn)(px py:Int):Bool:=(a.wx == 0) && (decide (px<a.o.x) && ((decide (py<a.o.y)) != (decide (py<a.h.y))))
def zco(r:List Sd)(px py:Int):Nat→Bool
 | 0=>false
 | k+1=>if zgd (arn r k) px py then !zco r px py k else zco r px py k
structure Bx where
 lx:Int
 ly:Int
 hx:Int
 hy:Int
def zta(a:Arn):Bx:=⟨min a.o.x a.h.x,min a.o.y a.h.y,max a.o.x a.h.x,max a.o.y a.h.y⟩
def zlQ(a b:Bx):Bool:=decide (a.lx≤b.hx) && (decide (b.lx≤a.hx) && (decide (a.ly≤b.hy) && decide (b.ly≤a.hy)))
def zik(r:List Sd)(n:Nat):List (Bx × Nat × Nat):=(List.range r.length).map fun i=>(zta (arn r i),n,i)
def zbD(R:List (List Sd)):Nat→List (Bx × Nat × Nat)
 | 0=>[]
 | k+1=>zbD R k++zik (R.getD k []) k
def zch(l:List (Bx × Nat × Nat))(i:Nat):Bx × Nat × Nat:=l.getD i (⟨0,0,0,0⟩,0,0)
def zdd(R:List (List Sd))(a b:Bx × Nat × Nat):Bool:=!((a.2.1 == b.2.1) && ((((a.2.2:Int) - b.2.2 == 1) || ((a.2.2:Int) - b.2.2 == ((R.getD a.2.1 []).length:Int) - 1)))) && zlQ a.1 b.1
def zdm(R:List (List Sd)):Bool:=(List.range (zbD R R.length).length).any fun i=>(List.range i).any fun k=>zdd R (zch (zbD R R.length) i) (zch (zbD R R.length) k)
def ringAt(R:List (List Sd))(i:Nat):List Sd:=R.getD i []
def zjR(R:List (List Sd))(i k:Nat):Bool:=(k == i) || ((i == 0) || (zco (ringAt R k) (zcf (ringAt R i) 0).x (zcf (ringAt R i) 0).y (ringAt R k).length == (k == 0)))
def zbS(R:List (List Sd)):Bool:=(List.range R.length).all fun i=>(decide (0<zes (ringAt R i) (ringAt R i).length) == (i == 0)) && (List.range R.length).all fun k=>zjR R i k
def zkb(a:Arn):Bool:=zqb a || !(a.o.gable || (a.b.gable || (a.o.plate != a.b.plate)))
def ziM(r:List Sd):Bool:=(List.range r.length).all fun i=>zkb (arn r i)
def ztt(r:List Sd):Bool:=(List.range r.length).any fun i=>!(arn r i).o.gable
def zdw(R:List (List Sd)):Bool:=((List.range R.length).all fun i=>ziM (ringAt R i)) && (List.range R.length).any fun i=>ztt (ringAt R i)
def zaK(R:List (List Sd)):Nat:=(R.map List.length).sum
def zdb(R:List (List Sd)):Int :=
 if (R.any fun r=>decide (r.length=0))=true then 5
 else if zaK R=0 then 5
 else if 24<zaK R then 4
 else if (R.flatten.any fun s=>!zah s)=true then 2
 else if (R.any fun r=>!zan r)=true then 14
 else if zdm R=true then 15
 else if (!zbS R || !zdw R)=true then 14
 else 0
structure PlanOk (R:List (List Sd)):Prop where
 rg:∀ s∈R.flatten,Rgd s
 four:∀ r∈R,4≤r.length
 le:zaK R≤24
 pos:0<zaK R
theorem zgc{R:List (List Sd)}(h:zdb R=0):PlanOk R:=by
 unfold zdb at h
 by_cases h1:(R.any fun r=>decide (r.length=0))=true
 ·rw[if_pos h1]at h;omega
 rw[if_neg h1]at h
 by_cases h2:zaK R=0
 ·rw[if_pos h2]at h;omega
 rw[if_neg h2]at h
 by_cases h3:24<zaK R
 ·rw[if_pos h3]at h;omega
 rw[if_neg h3]at h
 by_cases h4:(R.flatten.any fun s=>!zah s)=true
 ·rw[if_pos h4]at h;omega
 rw[if_neg h4]at h
 by_cases h5:(R.any fun r=>!zan r)=true
 ·rw[if_pos h5]at h;omega
 refine⟨fun s hs=>zr5 ?_,fun r hr=>?_,by omega,by omega⟩
 ·rcases hb:zah s with _ | _
  ·exact absurd (List.any_eq_true.2 ⟨s,hs,by rw[hb];rfl⟩) h4
  ·rfl
 ·rcases hb:zan r with _ | _
  ·exact absurd (List.any_eq_true.2 ⟨r,hr,by rw[hb];rfl⟩) h5
  ·unfold zan at hb
   simp only[Bool.and_eq_true,decide_eq_true_eq]at hb
   exact hb.1
theorem count_flatten(R:List (List Sd)):R.flatten.length=zaK R:=List.length_flatten
theorem zgh{a b:Int}(ha:-131072≤a∧a≤131072)(hb:-131072≤b∧b≤131072):-17179869184≤a*b∧a*b≤17179869184:=by
 have h1:a.natAbs≤131072:=by omega
 have h2:b.natAbs≤131072:=by omega
 have h3:=Nat.mul_le_mul h1 h2
 rw[← Int.natAbs_mul]at h3
 omega
theorem zkl{fn:Func}{m:Tmp}(hf:fn.results=#[.cell m 307])(tmps:Array Value)(W:World)(b:Nat)(x y:Value)(hp:tmps.getD m undef=.pointer (some ⟨b,0,none⟩))
  (c0:W.cell? ⟨b,0,none⟩=some x)(c1:W.cell? ⟨b,1,none⟩=some y) :
  (results fn tmps).run Tryz.prog W=.ok (.agg #[x,y]) W:=by
 simp only[Array.getD_eq_getD_getElem?]at hp
 simp[results,hf,go_sem,hp,c0,c1]
theorem zaM(x y rise run:Int)(g:Bool)(p o:Int)(w:World) :
  CR 250 #[.agg #[.int .i64 x,.int .i64 y,.int .i64 rise,.int .i64 run,.bool g,.int .i64 p,.int .i64 o]] w (.agg #[.int .i64 x,.int .i64 y]):=by
 go_enter Tryz.func250,Tryz.ntmps250
 go_wp2
 have BB:=Blk.new1 w (.cells #[.int .i64 x,.int .i64 y,.int .i64 rise,.int .i64 run,.bool g,.int .i64 p,.int .i64 o] 82) [.int .i64 x,.int .i64 y] 307
 exact bodyPost_ret (v:=.agg #[.int .i64 x,.int .i64 y]) (zkl Tryz.results250 _ _ (w.heap.size+1) _ _ rfl (BB.cell 0) (BB.cell 1)) rfl ⟨rfl,bt⟩
theorem zmU(x y u v:Int)(hx:-4294967296≤x∧x≤4294967296)(hy:-4294967296≤y∧y≤4294967296)(hu:-4294967296≤u∧u≤4294967296)(hv:-4294967296≤v∧v≤4294967296)(w:World) :
  CR 251 #[.agg #[.int .i64 x,.int .i64 y],.agg #[.int .i64 u,.int .i64 v]] w (.agg #[.int .i64 (u - x),.int .i64 (v - y)]):=by
 have w1:=Go.IntWalk.i64_in (u - x) (by omega)
 have w2:=Go.IntWalk.i64_in (v - y) (by omega)
 go_enter Tryz.func251,Tryz.ntmps251
 go_wp2
 have BB:=Blk.new2 w (.cells #[.int .i64 x,.int .i64 y] 307) (.cells #[.int .i64 u,.int .i64 v] 307) [.int .i64 (u - x),.int .i64 (v - y)] 307
 exact bodyPost_ret (v:=.agg #[.int .i64 (u - x),.int .i64 (v - y)]) (zkl Tryz.results251 _ _ (w.heap.size+2) _ _ rfl (BB.cell 0) (BB.cell 1)) rfl ⟨rfl,bt⟩
theorem zjJ(x y u v:Int)(hx:-131072≤x∧x≤131072)(hy:-131072≤y∧y≤131072)(hu:-131072≤u∧u≤131072)(hv:-131072≤v∧v≤131072)(w:World) :
  CR 289 #[.agg #[.int .i64 x,.int .i64 y],.agg #[.int .i64 u,.int .i64 v]] w (.int .i64 (zeW x y u v)):=by
 have m1:=zgh hx hv
 have m2:=zgh hy hu
 unfold zeW
 have w1:=Go.IntWalk.i64_in (x*v) (by omega)
 have w2:=Go.IntWalk.i64_in (y*u) (by omega)
 have w3:=Go.IntWalk.i64_in (x*v - y*u) (by omega)
 clear m1 m2
 go_enter Tryz.func289,Tryz.ntmps289
 go_wp2
 go_ret
 exact⟨rfl,bt⟩
theorem zeG(n a b:Int)(w:World) :
  CR 247 #[.int .i64 n,.int .i64 a,.int .i64 b] w (.bool (decide (a≤n) && decide (n≤b))):=by
 go_enter Tryz.func247,Tryz.ntmps247
 by_cases h1:a≤n
 ·rw[decide_eq_true h1,Bool.true_and]
  go_wp2
  go_ret
  exact⟨rfl,Q.refl _⟩
 ·rw[decide_eq_false h1,Bool.false_and]
  go_wp2
  go_ret
  exact⟨rfl,Q.refl _⟩
structure ArnOk (a:Arn):Prop where
 b:0≤a.b.x∧a.b.x≤65536∧0≤a.b.y∧a.b.y≤65536
 o:0≤a.o.x∧a.o.x≤65536∧0≤a.o.y∧a.o.y≤65536
 h:0≤a.h.x∧a.h.x≤65536∧0≤a.h.y∧a.h.y≤65536
theorem zky(a:Arn)(ok:ArnOk a)(w:World) :
  CR 252 #[.agg (zfN a).toArray] w (.agg #[.int .i64 a.wx,.int .i64 a.wy]):=by
 obtain⟨b,o,h⟩:=a
 obtain⟨kb,ko,kh⟩:=ok
 unfold Arn.wx Arn.wy zfN sdC
 simp only at *
 have HO:=LH (fun w=>zaM o.x o.y o.rise o.run o.gable o.plate o.over w)
 have HH:=LH (fun w=>zaM h.x h.y h.rise h.run h.gable h.plate h.over w)
 have HT:=LH (fun w=>zmU o.x o.y h.x h.y (by omega) (by omega) (by omega) (by omega) w)
 clear kb ko kh
 go_enter Tryz.func252,Tryz.ntmps252
 go_wp2_with fail
 have A:=(Blk.new w [.int .i64 b.x,.int .i64 b.y,.int .i64 b.rise,.int .i64 b.run,.bool b.gable,.int .i64 b.plate,.int .i64 b.over,.int .i64 o.x,.int .i64 o.y,.int .i64 o.rise,.int .i64 o.run,.bool o.gable,.int .i64 o.plate,.int .i64 o.over,.int .i64 h.x,.int .i64 h.y,.int .i64 h.rise,.int .i64 h.run,.bool h.gable,.int .i64 h.plate,.int .i64 h.over] 305).alloc (.cells #[.int .i64 0,.int .i64 0] 307)
 have S:=Blk.new1 w (.cells #[.int .i64 b.x,.int .i64 b.y,.int .i64 b.rise,.int .i64 b.run,.bool b.gable,.int .i64 b.plate,.int .i64 b.over,.int .i64 o.x,.int .i64 o.y,.int .i64 o.rise,.int .i64 o.run,.bool o.gable,.int .i64 o.plate,.int .i64 o.over,.int .i64 h.x,.int .i64 h.y,.int .i64 h.rise,.int .i64 h.run,.bool h.gable,.int .i64 h.plate,.int .i64 h.over] 305) [.int .i64 0,.int .i64 0] 307
 obtain⟨W0,hW0⟩:∃ W0,((w.alloc (.cells #[.int .i64 b.x,.int .i64 b.y,.int .i64 b.rise,.int .i64 b.run,.bool b.gable,.int .i64 b.plate,.int .i64 b.over,.int .i64 o.x,.int .i64 o.y,.int .i64 o.rise,.int .i64 o.run,.bool o.gable,.int .i64 o.plate,.int .i64 o.over,.int .i64 h.x,.int .i64 h.y,.int .i64 h.rise,.int .i64 h.run,.bool h.gable,.int .i64 h.plate,.int .i64 h.over] 305)).alloc (.cells #[.int .i64 0,.int .i64 0] 307))=W0:=⟨_,rfl⟩
 have hq0:Q w W0:=by rw[← hW0];exact bt
 rw[hW0]at A S ⊢
 clear hW0
 have d7:=A.drew.cell 7
 have d8:=A.drew.cell 8
 have d9:=A.drew.cell 9
 have d10:=A.drew.cell 10
 have d11:=A.drew.cell 11
 have d12:=A.drew.cell 12
 have d13:=A.drew.cell 13
 have d14:=A.drew.cell 14
 have d15:=A.drew.cell 15
 have d16:=A.drew.cell 16
 have d17:=A.drew.cell 17
 have d18:=A.drew.cell 18
 have d19:=A.drew.cell 19
 have d20:=A.drew.cell 20
 simp only[zs4,zs5]at d7 d8 d9 d10 d11 d12 d13 d14 d15 d16 d17 d18 d19 d20
 have hqd:Q W0 W0.drew:=Below.drew (Q.refl W0)
 refine zn 7 (by kernel_rfl) (by kernel_rfl) rfl ?_
 refine svp 0 ?_
 refine svq 1 rfl (by intro w' hq;have hc0:=za hq d7;have hc1:=za hq d8;have hc2:=za hq d9;have hc3:=za hq d10;have hc4:=za hq d11;have hc5:=za hq d12;have hc6:=za hq d13;go_simp;try with_reducible rfl) ?_
 refine zk (i:=2) (v:=_) rfl rfl (by kernel_rfl) (by kernel_rfl) (fun _ _ _ h=>h) (by rfl) ?_ (fun w' hq=>HO.out w') ?_
 ·(intro w' hq;go_simp;try with_reducible rfl)
 simp only[Act.put,zs1,zs2,zs3]
 refine svp 3 ?_
 refine svq 4 rfl (by intro w' hq;have hc0:=za hq d14;have hc1:=za hq d15;have hc2:=za hq d16;have hc3:=za hq d17;have hc4:=za hq d18;have hc5:=za hq d19;have hc6:=za hq d20;go_simp;try with_reducible rfl) ?_
 refine zk (i:=5) (v:=_) rfl rfl (by kernel_rfl) (by kernel_rfl) (fun _ _ _ h=>h) (by rfl) ?_ (fun w' hq=>HH.out w') ?_
 ·(intro w' hq;go_simp;try with_reducible rfl)
 simp only[Act.put,zs1,zs2,zs3]
 refine zk (i:=6) (v:=_) rfl rfl (by kernel_rfl) (by kernel_rfl) (fun _ _ _ h=>h) (by rfl) ?_ (fun w' hq=>HT.out w') ?_
 ·(intro w' hq;go_simp;try with_reducible rfl)
 simp only[Act.put,zs1,zs2,zs3]
 refine zh (by kernel_rfl) (fun w3 hq3=>?_)
 simp only[List.drop_succ_cons,List.drop_zero]
 have hqq:Q W0 w3:=Q.trans hqd hq3
 have hQ3:Q w w3:=Q.trans hq0 hqq
 replace S:=S.keep hqq S.lt
 have lS:=S.lt
 have s0:=S.cell 0
 have f0:=S.frozen 0
 have s1:=S.cell 1
 have f1:=S.frozen 1
 simp only[zs4,zs5]at s0 s1
 have S':=(S.set 0 (.int .i64 (h.x - o.x))).set 1 (.int .i64 (h.y - o.y))
 simp only[List.set_cons_zero,List.set_cons_succ]at S'
 have hQ4:=(hQ3.setCell (p:=⟨w.heap.size+1,0,none⟩) (by simp) (.int .i64 (h.x - o.x))).setCell (p:=⟨w.heap.size+1,1,none⟩) (by simp) (.int .i64 (h.y - o.y))
 clear A d7 d8 d9 d10 d11 d12 d13 d14 d15 d16 d17 d18 d19 d20
 go_wp2
 exact bodyPost_ret (v:=.agg #[.int .i64 (h.x - o.x),.int .i64 (h.y - o.y)]) (zkl Tryz.results252 _ _ (w.heap.size+1) _ _ rfl (S'.cell 0) (S'.cell 1)) rfl ⟨rfl,hQ4⟩
theorem zp1(a:Arn)(ok:ArnOk a)(w:World) :
  CR 257 #[.agg (zfN a).toArray] w (.bool (zqb a)):=by
 have HW:=LH (fun w=>zky a ok w)
 obtain⟨⟨x1,y1,r1,n1,g1,p1,q1⟩,⟨x2,y2,r2,n2,g2,p2,q2⟩,⟨x3,y3,r3,n3,g3,p3,q3⟩⟩:=a
 obtain⟨kb,ko,kh⟩:=ok
 unfold zqb
 unfold Arn.wx Arn.wy zfN sdC at *
 unfold Arn.vx Arn.vy
 simp only at *
 have HB:=LH (fun w=>zaM x1 y1 r1 n1 g1 p1 q1 w)
 have HO:=LH (fun w=>zaM x2 y2 r2 n2 g2 p2 q2 w)
 have HT:=LH (fun w=>zmU x1 y1 x2 y2 (by omega) (by omega) (by omega) (by omega) w)
 have HC:=LH (fun w=>zjJ (x2 - x1) (y2 - y1) (x3 - x2) (y3 - y2) (by omega) (by omega) (by omega) (by omega) w)
 generalize zeW (x2 - x1) (y2 - y1) (x3 - x2) (y3 - y2)=cr at *
 clear kb ko kh
 go_enter Tryz.func257,Tryz.ntmps257
 go_wp2_with fail
 have A:=Blk.new w [.int .i64 x1,.int .i64 y1,.int .i64 r1,.int .i64 n1,.bool g1,.int .i64 p1,.int .i64 q1,.int .i64 x2,.int .i64 y2,.int .i64 r2,.int .i64 n2,.bool g2,.int .i64 p2,.int .i64 q2,.int .i64 x3,.int .i64 y3,.int .i64 r3,.int .i64 n3,.bool g3,.int .i64 p3,.int .i64 q3] 305
 obtain⟨W0,hW0⟩:∃ W0,w.alloc (.cells #[.int .i64 x1,.int .i64 y1,.int .i64 r1,.int .i64 n1,.bool g1,.int .i64 p1,.int .i64 q1,.int .i64 x2,.int .i64 y2,.int .i64 r2,.int .i64 n2,.bool g2,.int .i64 p2,.int .i64 q2,.int .i64 x3,.int .i64 y3,.int .i64 r3,.int .i64 n3,.bool g3,.int .i64 p3,.int .i64 q3] 305)=W0:=⟨_,rfl⟩
 have hq0:Q w W0:=by rw[← hW0];exact bt
 rw[hW0]at A ⊢
 clear hW0
 have d0:=A.drew.cell 0
 have d1:=A.drew.cell 1
 have d2:=A.drew.cell 2
 have d3:=A.drew.cell 3
 have d4:=A.drew.cell 4
 have d5:=A.drew.cell 5
 have d6:=A.drew.cell 6
 have d7:=A.drew.cell 7
 have d8:=A.drew.cell 8
 have d9:=A.drew.cell 9
 have d10:=A.drew.cell 10
 have d11:=A.drew.cell 11
 have d12:=A.drew.cell 12
 have d13:=A.drew.cell 13
 have d14:=A.drew.cell 14
 have d15:=A.drew.cell 15
 have d16:=A.drew.cell 16
 have d17:=A.drew.cell 17
 have d18:=A.drew.cell 18
 have d19:=A.drew.cell 19
 have d20:=A.drew.cell 20
 simp only[zs4,zs5]at d0 d1 d2 d3 d4 d5 d6 d7 d8 d9 d10 d11 d12 d13 d14 d15 d16 d17 d18 d19 d20
 have hqd:Q W0 W0.drew:=Below.drew (Q.refl W0)
 refine zn 12 (by kernel_rfl) (by kernel_rfl) rfl ?_
 refine svp 0 ?_
 refine svq 1 rfl (by intro w' hq;have hc0:=za hq d0;have hc1:=za hq d1;have hc2:=za hq d2;have hc3:=za hq d3;have hc4:=za hq d4;have hc5:=za hq d5;have hc6:=za hq d6;go_simp;try with_reducible rfl) ?_
 refine zk (i:=2) (v:=_) rfl rfl (by kernel_rfl) (by kernel_rfl) (fun _ _ _ h=>h) (by rfl) ?_ (fun w' hq=>HB.out w') ?_
 ·(intro w' hq;go_simp;try with_reducible rfl)
 simp only[Act.put,zs1,zs2,zs3]
 refine svp 3 ?_
 refine svq 4 rfl (by intro w' hq;have hc0:=za hq d7;have hc1:=za hq d8;have hc2:=za hq d9;have hc3:=za hq d10;have hc4:=za hq d11;have hc5:=za hq d12;have hc6:=za hq d13;go_simp;try with_reducible rfl) ?_
 refine zk (i:=5) (v:=_) rfl rfl (by kernel_rfl) (by kernel_rfl) (fun _ _ _ h=>h) (by rfl) ?_ (fun w' hq=>HO.out w') ?_
 ·(intro w' hq;go_simp;try with_reducible rfl)
 simp only[Act.put,zs1,zs2,zs3]
 refine zk (i:=6) (v:=_) rfl rfl (by kernel_rfl) (by kernel_rfl) (fun _ _ _ h=>h) (by rfl) ?_ (fun w' hq=>HT.out w') ?_
 ·(intro w' hq;go_simp;try with_reducible rfl)
 simp only[Act.put,zs1,zs2,zs3]
 refine zS (i:=7) (v:=_) rfl rfl (by kernel_rfl) (by kernel_rfl) (fun _ _ _ h=>h) (by rfl) (fun w' hq=>zcT 305 (.tmp 1) rfl w.heap.size rfl (A.keep (Q.trans hqd hq) A.lt) _ Tryz.underlying305 rfl (by kernel_rfl)) ?_
 simp only[Act.put,zs1,zs2,zs3]
 refine zk (i:=8) (v:=_) rfl rfl (by kernel_rfl) (by kernel_rfl) (fun _ _ _ h=>h) (by rfl) ?_ (fun w' hq=>HW.out w') ?_
 ·(intro w' hq;go_simp;try with_reducible rfl)
 simp only[Act.put,zs1,zs2,zs3]
 refine zk (i:=9) (v:=_) rfl rfl (by kernel_rfl) (by kernel_rfl) (fun _ _ _ h=>h) (by rfl) ?_ (fun w' hq=>HC.out w') ?_
 ·(intro w' hq;go_simp;try with_reducible rfl)
 simp only[Act.put,zs1,zs2,zs3]
 refine svp 10 ?_
 refine svp 11 ?_
 refine zh (by kernel_rfl) (fun w3 hq3=>?_)
 simp only[List.drop_succ_cons,List.drop_nil]
 have hQ3:Q w w3:=Q.trans hq0 (Q.trans hqd hq3)
 clear A d0 d1 d2 d3 d4 d5 d6 d7 d8 d9 d10 d11 d12 d13 d14 d15 d16 d17 d18 d19 d20
 go_wp2
 go_ret
 exact⟨rfl,hQ3⟩
theorem zdM(a:Option Addr)(n cap:Nat)(w:World) :
  Calls Tryz.prog 249 #[.slice a n cap] w fun e w'=>e=.returned (.func (.func 288) #[] #[.pointer (some ⟨w.heap.size,0,none⟩)])∧w'=w.alloc (.cells #[.slice a n cap] 75):=by
 go_enter Tryz.func249,Tryz.ntmps249
 go_wp2
 go_ret
 exact⟨rfl,rfl⟩
def zci(w:World)(a:Option Addr)(r:List Sd):Prop:=∀ i,i<r.length→∃ b o,a=some ⟨b,o,none⟩∧∀ j u,(sdC (zcf r i))[j]? = some u→w.cell? ⟨b,o+i*7+j,none⟩=some u
def zbM:Option Addr→List Nat
 | none=>[]
 | some a=>[a.block]
theorem zci.keepB{w w':World}{a:Option Addr}{r:List Sd}(h:zci w a r){bs:List Nat}(hk:zI bs w w')(hb:∀ k∈zbM a,k∈bs):zci w' a r:=fun i hi=>by
 obtain⟨b,o,rfl,hc⟩:=h i hi
 exact⟨b,o,rfl,fun j u hu=>hk.cell (hb b (by simp[zbM])) (hc j u hu)⟩
theorem zci.q{w w':World}{a:Option Addr}{r:List Sd}(h:zci w a r)(hq:Q w w'):zci w' a r:=fun i hi=>by
 obtain⟨b,o,ha,hc⟩:=h i hi
 exact⟨b,o,ha,fun j u hu=>za hq (hc j u hu)⟩
theorem zcN{r:List Sd}{i:Nat}(h:i<r.length):zcf r i=r[i]:=by unfold zcf;rw[List.getD_eq_getElem?_getD,List.getElem?_eq_getElem h];rfl
theorem zba.at{w:World}{a:Option Addr}{n cap:Nat}{r:List Sd}(h:zba 7 sdC w (.slice a n cap) r):n=r.length∧zci w a r∧(∀ k∈zbM a,0<r.length→k<w.heap.size):=by
 obtain⟨a',c',he,hc⟩:=h
 injection he with e1 e2 e3
 subst e1
 refine⟨e2,fun i hi=>?_,fun k hk h0=>?_⟩
 ·obtain⟨b,o,ha,hb,h⟩:=hc i hi
  exact⟨b,o,ha,by rw[zcN hi];exact h⟩
 ·obtain⟨b,o,rfl,hb,h⟩:=hc 0 h0
  simp[zbM]at hk
  omega
theorem zpG(m:Nat)(hm:1≤m)(l Bs:Nat)(r:List Sd)(a:Option Addr)(cap:Nat)(hlen:r.length≤1000)(J Jx:List (PlN r.length)→World→Prop)
  (hY:∀ pre x W,J pre W→zr8 pre x→YieldAt Fence.wide (m - 1) Tryz.prog l #[.int .i64 (x.1:Nat),.agg (zfN (arn r x.1)).toArray] W fun e W' =>
   (e=.returned (.bool true)∧J (pre++[x]) W'∧zI (Bs::zbM a) W W')∨(e=.returned (.bool false)∧Jx (pre++[x]) W'))
  (hst:∀ pre W W',J pre W→Q W W'→J pre W') (W:World) (hBs:W.cell? ⟨Bs,0,none⟩=some (.slice a r.length cap)) (hr:zci W a r) (h0:J [] W) :
  CallsIn Fence.wide m Tryz.prog 288 #[.func (.yield l) #[] #[],.pointer (some ⟨Bs,0,none⟩)] W fun e W'=>(∃ v,e=.returned v) ∧
   ((∃ ys,UpN r.length ys∧J ys W')∨(∃ pre,(∃ k,k≤r.length∧UpN k pre)∧Jx pre W')):=by
 refine callsIn_of_wp Tryz.func288 rfl trivial ?_ rfl
 simp only[Tryz.ntmps288,List.size_toArray,List.length_cons,List.length_nil,Nat.reduceAdd,Nat.reduceSub,Array.replicate_succ,Array.replicate_zero,List.push_toArray,List.append_toArray,List.nil_append,List.cons_append]
 have HR:=LH hr
 clear hr
 gi_wp2
 gi_loopw [9] (fun i wr=>∃ k:Nat,k≤r.length∧i=.int .i64 k∧(∃ pre,UpN k pre∧J pre wr)∧zI (Bs::zbM a) W wr) (fun i _=>r.length - (intOf i).toNat)
 case atStart=>exact⟨0,Nat.zero_le _,by simp,⟨[],rfl,h0⟩,zI.refl _ _⟩
 case round =>
  obtain⟨k,hk,rfl,⟨pre,hpre,hJs⟩,hnx⟩:=hrel
  have hBs2:=hnx.cell (by simp) hBs
  have hrw:=HR.out.keepB hnx (fun k hk=>by simp[hk])
  by_cases hlt:k<r.length
  ·have hmix:Tryz.prog.follows .mixedOrders=true:=by kernel_rfl
   have hYk:=hY pre ⟨k,hlt⟩
   have hnext:=hpre.next ⟨k,hlt⟩ rfl
   have hpl:=hpre.len
   obtain⟨b,o,rfl,-⟩:=hrw k hlt
   have hcc:∀ i,i<r.length→∀ j u,(sdC (zcf r i))[j]? = some u→wr.drew.cell? ⟨b,o+i*7+j,none⟩=some u:=fun i hi j u hu=>by
    obtain⟨b',o',e,hc⟩:=hrw i hi
    injection e with e
    injection e with e1 e2
    subst e1 e2
    exact hc j u hu
   obtain⟨p,hp⟩:∃ p,(k+r.length - 1) % r.length=p:=⟨_,rfl⟩
   obtain⟨q,hq'⟩:∃ q,(k+1) % r.length=q:=⟨_,rfl⟩
   have hpl':p<r.length:=by rw[← hp];exact Nat.mod_lt _ (by omega)
   have hql':q<r.length:=by rw[← hq'];exact Nat.mod_lt _ (by omega)
   have e1:((k:Int)+(r.length:Int) - 1).tmod (r.length:Int)=(p:Int):=by
    rw[Int.tmod_eq_emod_of_nonneg (by omega),show ((k:Int)+(r.length:Int) - 1)=((k+r.length - 1:Nat):Int) by omega,← hp];exact(Int.natCast_emod _ _).symm
   have e2:((k:Int)+1).tmod (r.length:Int)=(q:Int):=by
    rw[Int.tmod_eq_emod_of_nonneg (by omega),show ((k:Int)+1)=((k+1:Nat):Int) by omega,← hq'];exact(Int.natCast_emod _ _).symm
   have c1:=hcc p hpl'
   have c2:=hcc k hlt
   have c3:=hcc q hql'
   have hyk:=hYk
   unfold arn at hyk
   simp only[hp,hq']at hyk
   clear hYk hcc
   generalize zcf r p=s1 at *
   generalize zcf r k=s2 at *
   generalize zcf r q=s3 at *
   have d10:wr.drew.cell? ⟨b,o+p*7,none⟩=some (.int .i64 s1.x):=c1 0 _ rfl
   have d11:wr.drew.cell? ⟨b,o+p*7+1,none⟩=some (.int .i64 s1.y):=c1 1 _ rfl
   have d12:wr.drew.cell? ⟨b,o+p*7+2,none⟩=some (.int .i64 s1.rise):=c1 2 _ rfl
   have d13:wr.drew.cell? ⟨b,o+p*7+3,none⟩=some (.int .i64 s1.run):=c1 3 _ rfl
   have d14:wr.drew.cell? ⟨b,o+p*7+4,none⟩=some (.bool s1.gable):=c1 4 _ rfl
   have d15:wr.drew.cell? ⟨b,o+p*7+5,none⟩=some (.int .i64 s1.plate):=c1 5 _ rfl
   have d16:wr.drew.cell? ⟨b,o+p*7+6,none⟩=some (.int .i64 s1.over):=c1 6 _ rfl
   have d20:wr.drew.cell? ⟨b,o+k*7,none⟩=some (.int .i64 s2.x):=c2 0 _ rfl
   have d21:wr.drew.cell? ⟨b,o+k*7+1,none⟩=some (.int .i64 s2.y):=c2 1 _ rfl
   have d22:wr.drew.cell? ⟨b,o+k*7+2,none⟩=some (.int .i64 s2.rise):=c2 2 _ rfl
   have d23:wr.drew.cell? ⟨b,o+k*7+3,none⟩=some (.int .i64 s2.run):=c2 3 _ rfl
   have d24:wr.drew.cell? ⟨b,o+k*7+4,none⟩=some (.bool s2.gable):=c2 4 _ rfl
   have d25:wr.drew.cell? ⟨b,o+k*7+5,none⟩=some (.int .i64 s2.plate):=c2 5 _ rfl
   have d26:wr.drew.cell? ⟨b,o+k*7+6,none⟩=some (.int .i64 s2.over):=c2 6 _ rfl
   have d30:wr.drew.cell? ⟨b,o+q*7,none⟩=some (.int .i64 s3.x):=c3 0 _ rfl
   have d31:wr.drew.cell? ⟨b,o+q*7+1,none⟩=some (.int .i64 s3.y):=c3 1 _ rfl
   have d32:wr.drew.cell? ⟨b,o+q*7+2,none⟩=some (.int .i64 s3.rise):=c3 2 _ rfl
   have d33:wr.drew.cell? ⟨b,o+q*7+3,none⟩=some (.int .i64 s3.run):=c3 3 _ rfl
   have d34:wr.drew.cell? ⟨b,o+q*7+4,none⟩=some (.bool s3.gable):=c3 4 _ rfl
   have d35:wr.drew.cell? ⟨b,o+q*7+5,none⟩=some (.int .i64 s3.plate):=c3 5 _ rfl
   have d36:wr.drew.cell? ⟨b,o+q*7+6,none⟩=some (.int .i64 s3.over):=c3 6 _ rfl
   have dB:wr.drew.cell? ⟨Bs,0,none⟩=some (.slice (some ⟨b,o,none⟩) r.length cap):=hBs2
   have hk0:(0:Int)≤k:=by omega
   have hkl:(k:Int)<r.length:=by omega
   have hln:(r.length:Int)≤1000:=by omega
   have hn0:(0:Int)<r.length:=by omega
   have hp0:(0:Int)≤p:=by omega
   have hpz:(p:Int)<r.length:=by omega
   have hq0:(0:Int)≤q:=by omega
   have hqz:(q:Int)<r.length:=by omega
   have hne:¬ r=[]:=fun h=>by
    have:=congrArg List.length h
    simp only[List.length_nil]at this
    omega
   have w1:=Go.IntWalk.i64_in ((k:Int)+r.length) (by omega)
   have w2:=Go.IntWalk.i64_in ((k:Int)+r.length - 1) (by omega)
   have w3:=Go.IntWalk.i64_in ((k:Int)+1) (by omega)
   have w4:=Go.IntWalk.i64_in (p:Int) (by omega)
   have w5:=Go.IntWalk.i64_in (q:Int) (by omega)
   have HYK:=LH hyk
   clear c1 c2 c3 hyk hp hq'
   gi_wp2
   refine RT.zaG 23 hmix (by kernel_rfl) rfl ?_
   refine RT.svp 0 ?_
   refine RT.svp 1 ?_
   refine RT.svq 2 rfl (by intro w' hq;have hc0:=za hq dB;go_simp;try with_reducible rfl) ?_
   refine RT.svp 3 ?_
   refine RT.svp 4 ?_
   refine RT.svp 5 ?_
   refine RT.svp 6 ?_
   refine RT.svp 7 ?_
   refine RT.svp 8 ?_
   refine RT.svp 9 ?_
   refine RT.svq 10 rfl (by intro w' hq;have hc0:=za hq d10;have hc1:=za hq d11;have hc2:=za hq d12;have hc3:=za hq d13;have hc4:=za hq d14;have hc5:=za hq d15;have hc6:=za hq d16;go_simp;try with_reducible rfl) ?_
   refine RT.svq 11 rfl (by intro w' hq;have hc0:=za hq dB;go_simp;try with_reducible rfl) ?_
   refine RT.svp 12 ?_
   refine RT.svp 13 ?_
   refine RT.svq 14 rfl (by intro w' hq;have hc0:=za hq d20;have hc1:=za hq d21;have hc2:=za hq d22;have hc3:=za hq d23;have hc4:=za hq d24;have hc5:=za hq d25;have hc6:=za hq d26;go_simp;try with_reducible rfl) ?_
   refine RT.svq 15 rfl (by intro w' hq;have hc0:=za hq dB;go_simp;try with_reducible rfl) ?_
   refine RT.svp 16 ?_
   refine RT.svp 17 ?_
   refine RT.svp 18 ?_
   refine RT.svp 19 ?_
   refine RT.svp 20 ?_
   refine RT.svq 21 rfl (by intro w' hq;have hc0:=za hq d30;have hc1:=za hq d31;have hc2:=za hq d32;have hc3:=za hq d33;have hc4:=za hq d34;have hc5:=za hq d35;have hc6:=za hq d36;go_simp;try with_reducible rfl) ?_
   refine RT.svp 22 ?_
   refine RT.zh (by kernel_rfl) (fun w3 hq3=>?_)
   simp only[List.drop_succ_cons,List.drop_zero]
   have hqq:Q wr w3:=Q.trans (Below.drew (Q.refl wr)) hq3
   have hnx3:zI (Bs::zbM (some ⟨b,o,none⟩)) W w3:=hnx.trans (zI.q hqq)
   have hJ3:=hst _ _ _ hJs hqq
   have hYK:=HYK.out w3 hJ3 hpl.symm
   obtain⟨fn,tmps,assign,body,hy,hR⟩:=hYK
   unfold zfN sdC at hy
   simp only[List.cons_append,List.nil_append]at hy
   clear hrw HR dB d10 d11 d12 d13 d14 d15 d16 d20 d21 d22 d23 d24 d25 d26 d30 d31 d32 d33 d34 d35 d36
   gi_wp2
   refine hR.mono ?_
   rintro e W3 (⟨rfl,hJ4,hk4⟩|⟨rfl,hJx4⟩)
   ·gi_wp2
    go_roundw
    case rel=>exact⟨k+1,by omega,by go_num,⟨_,hnext,hJ4⟩,hnx3.trans hk4⟩
    case measure=>simp[intOf];omega
   ·gi_wp2
    refine bodyPost_ret (results_none rfl _ _ _) rfl ?_
    exact⟨⟨_,rfl⟩,.inr ⟨_,⟨k+1,by omega,hnext⟩,hJx4⟩⟩
  ·obtain rfl:k=r.length:=by omega
   gi_wp2
   go_end0
   exact⟨⟨_,rfl⟩,.inl ⟨_,hpre,hJs⟩⟩
theorem zdH(Bs:Nat)(r:List Sd)(a:Option Addr)(cap:Nat)(hlen:r.length≤1000)(w:World)(m:Nat)(hm:1≤m)(hBs:w.cell? ⟨Bs,0,none⟩=some (.slice a r.length cap))(hr:zci w a r) :
  zgD m Tryz.prog 288 #[.pointer (some ⟨Bs,0,none⟩)] (fun x:PlN r.length=>#[.int .i64 (x.1:Nat),.agg (zfN (arn r x.1)).toArray]) (Bs::zbM a) (fun _ _=>True) zr8 (fun ys=>UpN r.length ys) (fun pre=>∃ k,k≤r.length∧UpN k pre) w:=fun l J Jx W hW _ hst hY h0=>by
 refine(zpG m hm l Bs r a cap hlen J Jx hY hst W (za hW hBs) (hr.q hW) h0).mono ?_
 rintro e W'⟨hv,⟨ys,hys,hJ⟩|⟨pre,hp,hJx⟩⟩
 ·exact⟨hv,.inl ⟨_,hys,hJ⟩⟩
 ·exact⟨hv,.inr ⟨pre,hp,hJx⟩⟩
end
end Go.Proofs.YtapnkgdnflofbaaGreatDoor
