/-
  The forms of a housing's length, and how they compare: mathematics.; joint.Housing at members whose directions in the plan are short.; The mathematics of the law JointHousings.; Walks of package bevel: its numbers.
-/
import Derived.Test.YthdpnkkddhcacaaGreatDoorBK18
import Derived.Test.YthdpnkkddhcacaaGreatDoorBK15
import Derived.Laws.CopyRow
import Derived.Laws.CopyOwn
import Derived.Test.YthdpnkkddhcacaaGreatDoorBK16
set_option maxRecDepth 100000
set_option maxHeartbeats 2000000
namespace Go.Proofs.YthdpnkkddhcacaaGreatDoor
section
open Go.RowKit Kp
theorem npos{q:Rat}(h:0<q):0<q.num:=by
 have:=(Rat.lt_iff 0 q).1 h
 simpa using this
theorem zt7{q:Rat}(h:0<q.num):0<q:=(Rat.lt_iff 0 q).2 (by simpa using h)
theorem zjQ{r:List (Rat × Nat)}(z w:Rat)(n:Nat)(hp:0<n):zd6 ((z,n)::r) (w,n)=(z+w,n)::r:=zsA hp rfl
theorem zaa{q:Rat}(h:0<q):q≠0:=fun e=>by subst e;exact absurd h (by decide)
theorem zue{q:Rat}(h:q≠0):-q≠0:=fun e=>h (by grind)
theorem zg7{s:Rat}(hs:0<s.num):aOf s*aOf s*(leftOf s:Rat)=s:=by
 obtain⟨C,L,N,D,hN,hD,h,h2,e1,-,e3⟩:=znS s hs
 rw[e1,e3]
 grind
theorem zjR{s:Rat}(hs:0<s.num):0<aOf s:=by
 unfold aOf
 have h0:0<(zbc (s.num.toNat*s.den)).1:=(zfm (Nat.mul_pos (by omega) s.den_pos)).2.1
 exact zt7 (zdG (by omega) s.den_pos)
def FA(a:List (Rat × Nat)):Prop :=
 (∃ Z n,a=[(Z,n)]∧Z≠0∧zeG n)∨(∃ y X n,a=[(y,1),(X,n)]∧y≠0∧X≠0∧zeG n∧n≠1)
theorem FA.all{a:List (Rat × Nat)}(h:FA a):∀ c∈a,c.1≠0∧zeG c.2:=by
 rcases h with⟨Z,n,rfl,hz,hn⟩|⟨y,X,n,rfl,hy,hX,hn,-⟩
 ·intro c hc
  rw[List.mem_singleton]at hc
  subst hc
  exact⟨hz,hn⟩
 ·intro c hc
  rw[List.mem_cons,List.mem_singleton]at hc
  rcases hc with rfl | rfl
  ·exact⟨hy,zon⟩
  ·exact⟨hX,hn⟩
theorem FA.up{a:List (Rat × Nat)}(h:FA a):(∀ i (h:i+1<a.length),a[i].2<a[i+1].2)∧Apart a∧a.length≤2:=by
 rcases h with⟨Z,n,rfl,hz,hn⟩|⟨y,X,n,rfl,hy,hX,hn,h1⟩
 ·exact⟨fun i h=>absurd h (by simp),List.pairwise_singleton _ _,by simp⟩
 ·refine⟨fun i h=>?_,?_,by simp⟩
  ·obtain rfl:i=0:=by simp at h;omega
   show 1<n
   have:=hn.1
   omega
  ·unfold Apart
   rw[List.pairwise_cons]
   exact⟨fun c hc=>by rw[List.mem_singleton]at hc;subst hc;exact(znN hn h1).1,List.pairwise_singleton _ _⟩
theorem FA.slist{a:List (Rat × Nat)}(h:FA a)(hs:∀ c∈a,zbq c=true):SList a:=by
 obtain⟨h1,h2,h3⟩:=h.up
 refine⟨fun c hc=>?_,h1,h2,by omega⟩
 obtain⟨e1,e2⟩:=h.all c hc
 have e3:=hs c hc
 have e4:=zl2 e3
 unfold zbq at e3
 simp only[Bool.and_eq_true,decide_eq_true_eq]at e3
 exact⟨e4.1.zah (by decide),e1,e3.1,e2,zfg (by decide) e3.2⟩
def HA(a:List (Rat × Nat))(W:Rat):Prop :=
 (∃ Z n,a=[(Z,n)]∧0<Z∧zeG n∧W*W≤Z*Z*(n:Rat)) ∨
 (∃ y X n,a=[(y,1),(X,n)]∧0<y∧0<X∧zeG n∧n≠1∧W*W≤X*X*(n:Rat))
theorem FA.withA{a:List (Rat × Nat)}(h:FA a):∀ c∈a++negL a,c.1≠0∧zeG c.2:=fun c hc=>by
 rcases List.mem_append.1 hc with hc | hc
 ·exact h.all c hc
 ·unfold negL at hc
  obtain⟨d,hd,rfl⟩:=List.mem_map.1 hc
  exact⟨zue (h.all d hd).1,(h.all d hd).2⟩
theorem zsz(c t:Rat × Nat):zm2 [] [c,t]=zd6 [c] t:=rfl
theorem zrr(c t u v:Rat × Nat):zm2 [] [c,t,u,v]=zd6 (zd6 (zd6 [c] t) u) v:=rfl
theorem zsB(t:Rat × Nat):zd6 [] t=[t]:=rfl
theorem FA.gatherA{a:List (Rat × Nat)}(h:FA a):(zm2 [] (a++negL a)).length≤2∧zex (zm2 [] (a++negL a))=[]:=by
 have z0:∀ q:Rat,q + -q=0:=fun q=>by grind
 rcases h with⟨Z,n,rfl,hz,hn⟩|⟨y,X,n,rfl,hy,hX,hn,h1⟩
 ·have e:zm2 [] ([(Z,n)]++negL [(Z,n)])=[(Z + -Z,n)]:=by
   show zm2 [] [(Z,n),(-Z,n)]=_
   rw[zsz,zjQ _ _ _ hn.1]
  rw[e]
  refine⟨by simp,?_⟩
  unfold zex
  rw[z0]
  rfl
 ·have e:zm2 [] ([(y,1),(X,n)]++negL [(y,1),(X,n)])=[(y + -y,1),(X + -X,n)]:=by
   show zm2 [] [(y,1),(X,n),(-y,1),(-X,n)]=_
   rw[zrr,zmZ (znN hn h1).1,zsB,zjQ _ _ _ (by decide),zmZ (znN hn h1).1,zjQ _ _ _ hn.1]
  rw[e]
  refine⟨by simp,?_⟩
  unfold zex
  rw[z0,z0]
  rfl
theorem FA.cmpA{a:List (Rat × Nat)}(h:FA a):(∀ cs,zd5 (zhU (a++negL a))=some cs→cs.length≤2)∧(ztC (a++negL a)=.tuple #[.int .i64 0,.int .i64 4]∨ztC (a++negL a)=.tuple #[.int .i64 0,.int .i64 0]):=by
 refine⟨fun cs hc=>?_,zri fun C hC=>?_⟩
 ·rw[ziH _ _ rfl h.withA cs hc];exact h.gatherA.1
 ·rw[zpA h.withA hC];exact h.gatherA.2
theorem znx{z:Rat}(h:z≠0)(n:Nat):zex [(z,n)]=[(z,n)]:=by
 unfold zex
 rw[List.filter_cons,if_pos (by simp[h])]
 rfl
end
section
open Go.RowKit Go.Shelf Kp
attribute [local go_sem] Oper.semAt_some
def zeA(q:Rat):Rat:=if q.num<0 then -q else q
theorem zlN(q:Rat):(zeA q).num=(q.num.natAbs:Int):=by
 unfold zeA
 split
 ·rw[ziu];omega
 ·omega
theorem zoR(q:Rat):(zeA q).den=q.den:=by
 unfold zeA
 split
 ·exact zk2 q
 ·rfl
theorem zoZ(q:Rat):zo (ze q)=ze (zeA q):=by
 unfold ze
 rw[zoR,zlN]
 split
 ·rw[zal,zA]
 ·rw[zdx,zA]
theorem zhK{n:Nat}{q:Rat}(h:Bd n q):Bd n (zeA q):=⟨by rw[zlN,Int.natAbs_natCast];exact h.1,by rw[zoR];exact h.2⟩
theorem zlM{q:Rat}(h:q≠0):0<zeA q:=zt7 (by
 rw[zlN]
 have:q.num≠0:=fun e=>h (Rat.num_eq_zero.1 e)
 omega)
theorem zsC(q:Rat):zeA (-q)=zeA q:=by
 unfold zeA
 rw[ziu]
 by_cases h0:q.num=0
 ·have:q=0:=Rat.num_eq_zero.1 h0
  subst this
  rfl
 ·by_cases h:q.num<0
  ·rw[if_neg (by omega),if_pos h]
  ·rw[if_pos (by omega),if_neg h];grind
def B2(n:Nat)(p:P3):Prop:=Bd n p.x∧Bd n p.y
theorem zmI{n:Nat}{z:Int}(h:z.natAbs<10 ^ n)(hn:0<n):Bd n (z:Rat):=⟨h,by rw[show ((z:Rat)).den=1 from rfl];exact Nat.one_lt_pow (by omega) (by decide)⟩
theorem zdJ{P:Program}{ops:Array Oper}{rest:List Oper}{op:Oper}{a:Act}{w:World}{R:Exit→Act→World→Prop}(hgd:op.guard=none)(ty:TypeId)(x y:Operand)(ho:op.op=.store ty x y)(b o:Nat){t:TypeId}{cs:List Value}(hb:Blk w b cs t)
  (cs' cs2:List Value)(hx:a.eval x=.pointer (some ⟨b,o,none⟩))(hy:a.eval y=.agg cs'.toArray)(hl:o+cs'.length≤cs.length)(he:cs.take o++cs'++cs.drop (o+cs'.length)=cs2)(hi:(P.info? ty).map (·.size)=some cs'.length)(h1:∀ v∈cs',v.oneCell'=true)
  (h:wpList P ops R rest (a.put op.dst undef) (w.setRow b cs2.toArray)):wpList P ops R (op::rest) a w:=by
 have hs:(storeVar ty ⟨b,o,none⟩ (.agg cs'.toArray)).run P w=.ok () (w.setRow b cs2.toArray):=by
  have h2:=run_storeCells_at (P:=P) b o t cs' 0 cs.toArray w hb (by simp;omega) h1
  rw[show (cs.toArray.toList.take (o+0)++cs'++cs.toArray.toList.drop (o+0+cs'.length))=cs2 by simpa using he]at h2
  cases hq:P.info? ty with
  | none=>simp[hq]at hi
  | some i =>
   have hz:cs'.length=i.size:=by simp[hq]at hi;omega
   simp[storeVar,sizeOf,typeInfo,hq,Value.cells,hz,h2]
 refine wpList_plain hgd fun K hK=>?_
 unfold Oper.wp execOp
 simp only[ho,hx,hy,Instr.storeAt,Instr.sureAddr,Sem.run_bind,Sem.run_pure,Result.andThen_ok,hs]
 exact hK _ _ h
theorem zcP{k l:Nat}{x y:Rat}(hx:Bd k x)(hy:Bd l y):Bd (k+l+1) (x - y):=by
 rw[show x - y=x + -y by grind]
 exact hx.add (zuf hy)
end
section
open Go.RowKit Go.Shelf Kp
theorem zbV{a b:Rat}(ha:0<a)(hb:0<b):0<a / b:=by
 rw[Rat.div_def]
 exact Rat.mul_pos ha (Rat.inv_pos.2 hb)
theorem zkP{r:Rat}(hr:0<r):aOf (r*r)=r∧leftOf (r*r)=1:=by
 have hn:0<r.num:=npos hr
 obtain⟨e1,e2⟩:=zfD r
 have hk:(r*r).num.toNat*(r*r).den=(r.num.toNat*r.den)*(r.num.toNat*r.den):=by
  rw[e1,e2,Int.toNat_mul (by omega) (by omega)]
  ac_rfl
 have hp:0<r.num.toNat*r.den:=Nat.mul_pos (by omega) r.den_pos
 have hN:=zoo hp
 have hl:leftOf (r*r)=1:=by unfold leftOf;rw[hk,hN]
 refine⟨?_,hl⟩
 have h1:=zg7 (s:=r*r) (npos (Rat.mul_pos hr hr))
 rw[hl,show ((1:Nat):Rat)=1 from rfl]at h1
 have h2:=zjR (s:=r*r) (npos (Rat.mul_pos hr hr))
 have a1:aOf (r*r)≤r:=zox (Rat.le_of_lt hr) (by grind)
 have a2:r≤aOf (r*r):=zox (Rat.le_of_lt h2) (by grind)
 grind
end
section
open Go.RowKit Go.Shelf Kp
attribute [local go_sem] Oper.semAt_some
theorem zrb(args:Array Value)(w:World):(callFunc 67 args).run Tryz.prog w=.ok (.enter 67 args) w:=by kernel_rfl
theorem zpZ(q:Rat)(h:Bd 12 q)(w:World)(hE:Env w) :
  CR 107 #[.string ⟨(ze q).toArray⟩] w (.bool false):=by
 have HP:=LH (fun w hw=>zbD q (h.zah (by decide)) w hw)
 have HT:=LH (fun w=>zO (Lib.itoa q.num) w)
 obtain⟨l1,l2⟩:=zjP h
 have k1:((zo (Lib.itoa q.num)).length:Int)≤12:=by omega
 have k2:((Lib.itoa (q.den:Int)).length:Int)≤12:=by omega
 clear h l1 l2
 generalize ze q=S at *
 generalize zo (Lib.itoa q.num)=U at *
 generalize Lib.itoa (q.den:Int)=D at *
 generalize Lib.itoa q.num=N at *
 have b1:decide ((12:Int)<(U.length:Int))=false:=decide_eq_false (by omega)
 have b2:decide ((12:Int)<(D.length:Int))=false:=decide_eq_false (by omega)
 go_enter Tryz.func107,Tryz.ntmps107
 have hQ0:=Q.refl w
 go_wp2_with fail
 refine cx (HP.out _ (hE.ofQ bt)) fun w1 hq1=>?_
 have hs1:Q w w1:=Q.trans bt hq1
 have hQ1:Q w w1:=Q.trans hQ0 hs1
 go_wp2_with fail
 refine(HT.out _).mono ?_
 rintro e w2⟨rfl,rfl⟩
 go_wp2
 go_ret
 exact⟨rfl,bt⟩
def zaA(w:World)(b:Nat):Prop:=Blk w b [.int .i64 0] 67
theorem zaA.keep{w w':World}{b:Nat}(h:zaA w b)(hq:Q w w'):zaA w' b:=Blk.keep h hq (Blk.lt h)
theorem zhP{w:World}{b:Nat}(h:zaA w b):w.setCell ⟨b,0,none⟩ (.int .i64 0)=w:=by
 unfold zaA Blk at h
 have hlt:b<w.heap.size:=(Array.getElem?_eq_some_iff.1 h).1
 have hv:w.heap[b]=.cells [.int .i64 0].toArray 67 (0,0):=(Array.getElem?_eq_some_iff.1 h).2
 unfold World.setCell
 cases w with
 | mk heap tape drawn os output =>
  congr 1
  apply Array.ext_getElem?
  intro i
  rw[Array.getElem?_modify]
  split
  ·rename_i e
   subst e
   simp only at h
   rw[h]
   rfl
  ·rfl
theorem zlG(K:Nat)(HK:∀ args w,(callFunc K args).run Tryz.prog w=.ok (.enter K args) w)(X Y Z:Str)(HO:Hid (ztQ K X Y Z))(b:Nat)(w:World)(hE:Env w)(hb:zaA w b) :
  CR 63 #[.pointer (some ⟨b,0,none⟩),.func (.func K) #[] #[],.string ⟨X.toArray⟩,.string ⟨Y.toArray⟩] w (.string ⟨Z.toArray⟩):=by
 have B:Blk w b [.int .i64 0] 67:=hb
 have hQ0:=Q.refl w
 replace c0:=B.cell
 replace lB:=B.lt
 go_enter Tryz.func63,Tryz.ntmps63
 go_wp2_with fail
 refine cx (HO.out _ (hE.ofQ bt)) fun w1 hq1=>?_
 have hs1:Q w w1:=Q.trans bt hq1
 have hQ1:Q w w1:=Q.trans hQ0 hs1
 replace B:=B.keep hs1 B.lt
 replace c0:=B.cell
 replace lB:=B.lt
 have hs:=zhP (show zaA w1 b from B)
 have hf:=B.frozen 0
 go_wp2
 go_ret
 exact⟨rfl,hQ1⟩
theorem zcr{k l:Nat}(x y:Rat)(hx:Bd k x)(hy:Bd l y)(h:k+l≤300)(b:Nat)(w:World)(hE:Env w)(hb:zaA w b) :
  CR 27 #[.pointer (some ⟨b,0,none⟩),.string ⟨(ze x).toArray⟩,.string ⟨(ze y).toArray⟩] w (.string ⟨(ze (x*y)).toArray⟩):=by
 have HD:=LH (fun w hw hb=>zlG 38 zra (ze x) (ze y) (ze (x*y)) (LH (fun w hw=>zbk x y hx hy h w hw)) b w hw hb)
 go_enter Tryz.func27,Tryz.ntmps27
 have hQ0:=Q.refl w
 go_wp2_with fail
 refine cx (HD.out _ hE hb) fun w1 hq1=>?_
 have hs1:Q w w1:=Q.trans bt hq1
 have hQ1:Q w w1:=Q.trans hQ0 hs1
 go_wp2
 go_ret
 exact⟨rfl,bt⟩
theorem ziC{k l:Nat}(x y:Rat)(hx:Bd k x)(hy:Bd l y)(h0:y.num≠0)(h:k+l≤300)(b:Nat)(w:World)(hE:Env w)(hb:zaA w b) :
  CR 32 #[.pointer (some ⟨b,0,none⟩),.string ⟨(ze x).toArray⟩,.string ⟨(ze y).toArray⟩] w (.string ⟨(ze (x / y)).toArray⟩):=by
 have HD:=LH (fun w hw hb=>zlG 67 zrb (ze x) (ze y) (ze (x / y)) (LH (fun w hw=>zbK x y hx hy h0 h w hw)) b w hw hb)
 go_enter Tryz.func32,Tryz.ntmps32
 have hQ0:=Q.refl w
 go_wp2_with fail
 refine cx (HD.out _ hE hb) fun w1 hq1=>?_
 have hs1:Q w w1:=Q.trans bt hq1
 have hQ1:Q w w1:=Q.trans hQ0 hs1
 go_wp2
 go_ret
 exact⟨rfl,bt⟩
theorem zg4{k l:Nat}(x y:Rat)(hx:Bd k x)(hy:Bd l y)(h:k+l+1≤300)(b:Nat)(w:World)(hE:Env w)(hb:zaA w b) :
  CR 26 #[.pointer (some ⟨b,0,none⟩),.string ⟨(ze x).toArray⟩,.string ⟨(ze y).toArray⟩] w (.string ⟨(ze (x+y)).toArray⟩):=by
 have HD:=LH (fun w hw hb=>zlG 64 zrc (ze x) (ze y) (ze (x+y)) (LH (fun w hw=>zeV x y hx hy h w hw)) b w hw hb)
 go_enter Tryz.func26,Tryz.ntmps26
 have hQ0:=Q.refl w
 go_wp2_with fail
 refine cx (HD.out _ hE hb) fun w1 hq1=>?_
 have hs1:Q w w1:=Q.trans bt hq1
 have hQ1:Q w w1:=Q.trans hQ0 hs1
 go_wp2
 go_ret
 exact⟨rfl,bt⟩
theorem zoI{k l:Nat}(x y:Rat)(hx:Bd k x)(hy:Bd l y)(h:k+l+1≤300)(b:Nat)(w:World)(hE:Env w)(hb:zaA w b) :
  CR 29 #[.pointer (some ⟨b,0,none⟩),.string ⟨(ze x).toArray⟩,.string ⟨(ze y).toArray⟩] w (.string ⟨(ze (x - y)).toArray⟩):=by
 have HD:=LH (fun w hw hb=>zlG 66 zmP (ze x) (ze y) (ze (x - y)) (LH (fun w hw=>zbJ x y hx hy h w hw)) b w hw hb)
 go_enter Tryz.func29,Tryz.ntmps29
 have hQ0:=Q.refl w
 go_wp2_with fail
 refine cx (HD.out _ hE hb) fun w1 hq1=>?_
 have hs1:Q w w1:=Q.trans bt hq1
 have hQ1:Q w w1:=Q.trans hQ0 hs1
 go_wp2
 go_ret
 exact⟨rfl,bt⟩
theorem zd3(q:Rat)(w:World) :
  Calls Tryz.prog 28 #[.string ⟨(ze q).toArray⟩] w fun e w'=>e=.returned (.string ⟨(ze (zeA q)).toArray⟩)∧w=w':=by
 have HT:=LH (fun w=>zO (ze q) w)
 rw[zoZ]at HT
 generalize ze (zeA q)=R at *
 generalize ze q=S at *
 go_enter Tryz.func28,Tryz.ntmps28
 go_wp2_with fail
 refine(HT.out _).mono ?_
 rintro e w1⟨rfl,rfl⟩
 go_wp2
 go_ret
 exact⟨rfl,rfl⟩
def flR(u v:P3):Rat:=u.x*v.x+u.y*v.y
def coR(u v:P3):Rat:=u.x*v.y - u.y*v.x
theorem zd2{k l:Nat}(u v:P3)(hu:B3 k u)(hv:B3 l v)(h:k+l+(k+l)+1≤300)(b:Nat)(w:World)(hE:Env w)(hb:zaA w b) :
  CR 30 #[.pointer (some ⟨b,0,none⟩),V3 u,V3 v] w (.string ⟨(ze (flR u v)).toArray⟩):=by
 have M1:=LH (fun w hw hb=>zcr u.x v.x hu.1 hv.1 (by omega) b w hw hb)
 have M2:=LH (fun w hw hb=>zcr u.y v.y hu.2.1 hv.2.1 (by omega) b w hw hb)
 have M3:=LH (fun w hw hb=>zg4 (u.x*v.x) (u.y*v.y) (hu.1.mul hv.1) (hu.2.1.mul hv.2.1) h b w hw hb)
 rw[show u.x*v.x+u.y*v.y=flR u v from rfl]at M3
 unfold V3 at *
 clear hu hv h
 generalize ze (u.x*v.x)=P1 at *
 generalize ze (u.y*v.y)=P2 at *
 generalize ze (flR u v)=R at *
 generalize ze u.x=X at *
 generalize ze u.y=Y at *
 generalize ze u.z=Z at *
 generalize ze v.x=X' at *
 generalize ze v.y=Y' at *
 generalize ze v.z=Z' at *
 go_enter Tryz.func30,Tryz.ntmps30
 go_wp2_with fail
 obtain⟨W,hW⟩:∃ W,(w.alloc (.cells #[.string ⟨X.toArray⟩,.string ⟨Y.toArray⟩,.string ⟨Z.toArray⟩] 35)).alloc (.cells #[.string ⟨X'.toArray⟩,.string ⟨Y'.toArray⟩,.string ⟨Z'.toArray⟩] 35)=W:=⟨_,rfl⟩
 have BU:Blk W w.heap.size [.string ⟨X.toArray⟩,.string ⟨Y.toArray⟩,.string ⟨Z.toArray⟩] 35:=by rw[← hW];exact(Blk.new w _ _).alloc _
 have BV:Blk W (w.heap.size+1) [.string ⟨X'.toArray⟩,.string ⟨Y'.toArray⟩,.string ⟨Z'.toArray⟩] 35:=by rw[← hW];exact Blk.new1 w _ _ _
 have hqw:Q w W:=by rw[← hW];exact bt
 rw[hW]
 clear hW
 have hEd:Env W.drew:=hE.ofQ (Q.trans hqw (Below.drew (Q.refl W)))
 have hcd:zaA W.drew b:=hb.keep (Q.trans hqw (Below.drew (Q.refl W)))
 have hQ0:=Q.refl W
 replace u0:=BU.cell 0
 replace u1:=BU.cell 1
 simp only[zs4,zs5]at u0 u1
 replace lBU:=BU.lt
 replace v0:=BV.cell 0
 replace v1:=BV.cell 1
 simp only[zs4,zs5]at v0 v1
 replace lBV:=BV.lt
 refine zm 14 rfl (by kernel_rfl) rfl ?_
 refine svp 0 ?_
 refine svp 1 ?_
 refine svp 2 ?_
 refine svq 3 rfl (by intro w' hq;have hc0:=za hq u0;go_simp;try with_reducible rfl) ?_
 refine svp 4 ?_
 refine svq 5 rfl (by intro w' hq;have hc0:=za hq v0;go_simp;try with_reducible rfl) ?_
 refine zh (i:=6) (v:=_) rfl rfl (by kernel_rfl) (by kernel_rfl) (fun _ _ _ h=>h) (by rfl) ?_ (fun w' hq=>M1.out w' (hEd.ofQ hq) (hcd.keep hq)) ?_
 ·(intro w' hq;go_simp;try with_reducible rfl)
 simp only[Act.put,zs1,zs2,zs3]
 refine svp 7 ?_
 refine svp 8 ?_
 refine svq 9 rfl (by intro w' hq;have hc0:=za hq u1;go_simp;try with_reducible rfl) ?_
 refine svp 10 ?_
 refine svq 11 rfl (by intro w' hq;have hc0:=za hq v1;go_simp;try with_reducible rfl) ?_
 refine zh (i:=12) (v:=_) rfl rfl (by kernel_rfl) (by kernel_rfl) (fun _ _ _ h=>h) (by rfl) ?_ (fun w' hq=>M2.out w' (hEd.ofQ hq) (hcd.keep hq)) ?_
 ·(intro w' hq;go_simp;try with_reducible rfl)
 simp only[Act.put,zs1,zs2,zs3]
 refine zh (i:=13) (v:=_) rfl rfl (by kernel_rfl) (by kernel_rfl) (fun _ _ _ h=>h) (by rfl) ?_ (fun w' hq=>M3.out w' (hEd.ofQ hq) (hcd.keep hq)) ?_
 ·(intro w' hq;go_simp;try with_reducible rfl)
 simp only[Act.put,zs1,zs2,zs3]
 refine zi (by kernel_rfl) (fun w3 hq3=>?_)
 simp only[List.drop_succ_cons]
 have hQe:Q w w3:=Q.trans hqw (Q.trans (Below.drew (Q.refl W)) hq3)
 go_wp2
 go_ret
 exact⟨rfl,hQe⟩
theorem zpV{k l:Nat}(u v:P3)(hu:B3 k u)(hv:B3 l v)(h:k+l+(k+l)+1≤300)(b:Nat)(w:World)(hE:Env w)(hb:zaA w b) :
  CR 87 #[.pointer (some ⟨b,0,none⟩),V3 u,V3 v] w (.string ⟨(ze (coR u v)).toArray⟩):=by
 have M1:=LH (fun w hw hb=>zcr u.x v.y hu.1 hv.2.1 (by omega) b w hw hb)
 have M2:=LH (fun w hw hb=>zcr u.y v.x hu.2.1 hv.1 (by omega) b w hw hb)
 have M3:=LH (fun w hw hb=>zoI (u.x*v.y) (u.y*v.x) (hu.1.mul hv.2.1) (hu.2.1.mul hv.1) h b w hw hb)
 rw[show u.x*v.y - u.y*v.x=coR u v from rfl]at M3
 unfold V3 at *
 clear hu hv h
 generalize ze (u.x*v.y)=P1 at *
 generalize ze (u.y*v.x)=P2 at *
 generalize ze (coR u v)=R at *
 generalize ze u.x=X at *
 generalize ze u.y=Y at *
 generalize ze u.z=Z at *
 generalize ze v.x=X' at *
 generalize ze v.y=Y' at *
 generalize ze v.z=Z' at *
 go_enter Tryz.func87,Tryz.ntmps87
 go_wp2_with fail
 obtain⟨W,hW⟩:∃ W,(w.alloc (.cells #[.string ⟨X.toArray⟩,.string ⟨Y.toArray⟩,.string ⟨Z.toArray⟩] 35)).alloc (.cells #[.string ⟨X'.toArray⟩,.string ⟨Y'.toArray⟩,.string ⟨Z'.toArray⟩] 35)=W:=⟨_,rfl⟩
 have BU:Blk W w.heap.size [.string ⟨X.toArray⟩,.string ⟨Y.toArray⟩,.string ⟨Z.toArray⟩] 35:=by rw[← hW];exact(Blk.new w _ _).alloc _
 have BV:Blk W (w.heap.size+1) [.string ⟨X'.toArray⟩,.string ⟨Y'.toArray⟩,.string ⟨Z'.toArray⟩] 35:=by rw[← hW];exact Blk.new1 w _ _ _
 have hqw:Q w W:=by rw[← hW];exact bt
 rw[hW]
 clear hW
 have hEd:Env W.drew:=hE.ofQ (Q.trans hqw (Below.drew (Q.refl W)))
 have hcd:zaA W.drew b:=hb.keep (Q.trans hqw (Below.drew (Q.refl W)))
 have hQ0:=Q.refl W
 replace u0:=BU.cell 0
 replace u1:=BU.cell 1
 simp only[zs4,zs5]at u0 u1
 replace lBU:=BU.lt
 replace v0:=BV.cell 0
 replace v1:=BV.cell 1
 simp only[zs4,zs5]at v0 v1
 replace lBV:=BV.lt
 refine zm 14 rfl (by kernel_rfl) rfl ?_
 refine svp 0 ?_
 refine svp 1 ?_
 refine svp 2 ?_
 refine svq 3 rfl (by intro w' hq;have hc0:=za hq u0;go_simp;try with_reducible rfl) ?_
 refine svp 4 ?_
 refine svq 5 rfl (by intro w' hq;have hc0:=za hq v1;go_simp;try with_reducible rfl) ?_
 refine zh (i:=6) (v:=_) rfl rfl (by kernel_rfl) (by kernel_rfl) (fun _ _ _ h=>h) (by rfl) ?_ (fun w' hq=>M1.out w' (hEd.ofQ hq) (hcd.keep hq)) ?_
 ·(intro w' hq;go_simp;try with_reducible rfl)
 simp only[Act.put,zs1,zs2,zs3]
 refine svp 7 ?_
 refine svp 8 ?_
 refine svq 9 rfl (by intro w' hq;have hc0:=za hq u1;go_simp;try with_reducible rfl) ?_
 refine svp 10 ?_
 refine svq 11 rfl (by intro w' hq;have hc0:=za hq v0;go_simp;try with_reducible rfl) ?_
 refine zh (i:=12) (v:=_) rfl rfl (by kernel_rfl) (by kernel_rfl) (fun _ _ _ h=>h) (by rfl) ?_ (fun w' hq=>M2.out w' (hEd.ofQ hq) (hcd.keep hq)) ?_
 ·(intro w' hq;go_simp;try with_reducible rfl)
 simp only[Act.put,zs1,zs2,zs3]
 refine zh (i:=13) (v:=_) rfl rfl (by kernel_rfl) (by kernel_rfl) (fun _ _ _ h=>h) (by rfl) ?_ (fun w' hq=>M3.out w' (hEd.ofQ hq) (hcd.keep hq)) ?_
 ·(intro w' hq;go_simp;try with_reducible rfl)
 simp only[Act.put,zs1,zs2,zs3]
 refine zi (by kernel_rfl) (fun w3 hq3=>?_)
 simp only[List.drop_succ_cons]
 have hQe:Q w w3:=Q.trans hqw (Q.trans (Below.drew (Q.refl W)) hq3)
 go_wp2
 go_ret
 exact⟨rfl,hQe⟩
theorem zb1{n m:Nat}(k F O W D:Int)(f t:P3)(hf:B3 n f)(ht:B3 m t)(h:m+n+1≤300)(b:Nat)(w:World)(hE:Env w)(hb:zaA w b) :
  CR 25 #[.pointer (some ⟨b,0,none⟩),VN k F O W D f t] w (V3 (t.sub f)):=by
 have HS:=LH (fun w hw=>zoY t f ht hf h w hw)
 unfold VN V3 at *
 clear hf ht h
 generalize ze (t.sub f).x=U at *
 generalize ze (t.sub f).y=V at *
 generalize ze (t.sub f).z=T at *
 generalize ze f.x=X at *
 generalize ze f.y=Y at *
 generalize ze f.z=Z at *
 generalize ze t.x=X' at *
 generalize ze t.y=Y' at *
 generalize ze t.z=Z' at *
 have B:Blk w b [.int .i64 0] 67:=hb
 go_enter Tryz.func25,Tryz.ntmps25
 have hQ0:=Q.refl w
 replace c0:=B.cell
 replace lB:=B.lt
 go_wp2_with fail
 refine cx (HS.out _ (hE.ofQ bt)) fun w1 hq1=>?_
 have hs1:Q w w1:=Q.trans bt hq1
 have hQ1:Q w w1:=Q.trans hQ0 hs1
 replace B:=B.keep hs1 B.lt
 replace c0:=B.cell
 replace lB:=B.lt
 have R:=(Blk.new1 w (.cells #[.int .i64 k,.int .i64 F,.int .i64 O,.string ⟨X.toArray⟩,.string ⟨Y.toArray⟩,.string ⟨Z.toArray⟩,.string ⟨X'.toArray⟩,.string ⟨Y'.toArray⟩,.string ⟨Z'.toArray⟩,.int .i64 W,.int .i64 D] 37) [.string ⟨#[]⟩,.string ⟨#[]⟩,.string ⟨#[]⟩] 35).keep hq1 (by first | (simp;done)|(simp;omega))
 have hs:=zhP (show zaA w1 b from B)
 have f0:=R.frozen 0
 have f1:=R.frozen 1
 have f2:=R.frozen 2
 have g0:=B.frozen 0
 replace r0:=R.cell
 replace lR:=R.lt
 go_wp2
 refine bodyPost_ret (v:=.agg #[.string ⟨U.toArray⟩,.string ⟨V.toArray⟩,.string ⟨T.toArray⟩]) (zqx Tryz.results25 (.inl rfl) _ _ (w.heap.size+1) _ _ _ rfl ((R.set3.alloc _).cell 0) ((R.set3.alloc _).cell 1) ((R.set3.alloc _).cell 2)) rfl ⟨rfl,bt⟩
def MkP(W:World)(T:List (Rat × Rat))(e:Ending)(w':World):Prop:=∃ v E,e=.returned (.tuple #[v,.int .i64 E])∧Q W w'∧((zaX T=none∧E=4∧v=.slice none 0 0)∨(E=0∧∃ C,zaX T=some C∧zH w' W.heap.size v (zgj C)))
theorem MkP.lift{W W2:World}{T:List (Rat × Rat)}{e:Ending}{w':World}(h:MkP W2 T e w')(hq:Q W W2):MkP W T e w':=by
 obtain⟨v,E,rfl,hq2,h⟩:=h
 refine⟨v,E,rfl,Q.trans hq hq2,?_⟩
 rcases h with h | ⟨h1,C,h2,h3⟩
 ·exact .inl h
 ·exact .inr ⟨h1,C,h2,Joins.ownsRow_le h3 hq.size⟩
theorem zg3(ts:List (Rat × Rat))(hts:∀ t∈ts,TW t)(hlen:ts.length≤2)(b:Nat)(v:Value)(w:World)(hE:Env w)(hb:zaA w b)(hsl:TSl w w.heap.size v (ts.map ofT)) :
  Calls Tryz.prog 31 #[.pointer (some ⟨b,0,none⟩),v] w (MkP w ts):=by
 have HM:=LH (zdl ts hts (by omega) (fun cs h=>Nat.le_trans (ziG _ rfl hts h).2 hlen) v w hE hsl)
 obtain⟨a,cap,rfl,-⟩:=hsl
 have hm:Hid (zaX ts=zaX ts):=LH rfl
 obtain⟨mk,hmk⟩:∃ mk,zaX ts=mk:=⟨_,rfl⟩
 unfold MkP
 rw[hmk]at HM ⊢
 rw[List.length_map]at HM ⊢
 clear hts hlen hmk hm
 generalize ts.length=n at *
 have B:Blk w b [.int .i64 0] 67:=hb
 have hQ0:=Q.refl w
 replace c0:=B.cell
 replace lB:=B.lt
 go_enter Tryz.func31,Tryz.ntmps31
 go_wp2_with fail
 refine HM.out.mono ?_
 rintro e w1⟨hq1,hn,hs⟩
 by_cases hm:mk=none
 ·obtain rfl:=hn hm
  have HM:=LH hm
  clear hm hn hs
  go_wp2
  go_ret2
  exact⟨_,_,rfl,hq1,.inl ⟨HM.out,rfl,rfl⟩⟩
 ·obtain⟨C,hm⟩:=Option.ne_none_iff_exists'.1 hm
  obtain⟨v5,rfl,hr5⟩:=hs C hm
  rw[List.length_map]at hr5
  have HR5:Hid (zH w1 w.heap.size v5 (zgj C)):=LH hr5
  have HM:=LH hm
  clear hm hn hs hr5
  go_wp2
  go_ret2
  exact⟨_,_,rfl,hq1,.inr ⟨rfl,C,HM.out,HR5.out⟩⟩
end
end Go.Proofs.YthdpnkkddhcacaaGreatDoor
