/-
  VA VB VC VD, one behind the other.; VE VF VG VH, one behind the other.; Regions that draw their order, of an iterator: the first operations in whatever order, then what is left, the loop's body among it, one by one.; Rows of any elements in memory.
-/
import Derived.Test.YtbpghkdadajomaaGreatDoorSU2
import Derived.Lib.MinMax
import Derived.Test.YtbpghkdadajomaaGreatDoorBI1
set_option maxRecDepth 100000
set_option maxHeartbeats 4000000
namespace Kp
structure P3 where
 x:Rat
 y:Rat
 z:Rat
deriving DecidableEq
namespace P3
def sub(a b:P3):P3:=⟨a.x - b.x,a.y - b.y,a.z - b.z⟩
def add(a b:P3):P3:=⟨a.x+b.x,a.y+b.y,a.z+b.z⟩
def neg(a:P3):P3:=⟨-a.x,-a.y,-a.z⟩
def sq(a:P3):Rat:=a.x*a.x+a.y*a.y+a.z*a.z
end P3
end Kp
namespace Go.Proofs.YtbpghkdadajomaaGreatDoor
section
open Go.RowKit Kp
open Go.Lib (decDigits)
abbrev V3(p:P3):Value:=.agg #[.string ⟨(ze p.x).toArray⟩,.string ⟨(ze p.y).toArray⟩,.string ⟨(ze p.z).toArray⟩]
def B3(n:Nat)(p:P3):Prop:=Bd n p.x∧Bd n p.y∧Bd n p.z
theorem zse{fn:Func}{m:Tmp}{T:TypeId}(hf:fn.results=#[.cell m T])(hT:T=32∨T=183)(tmps:Array Value)(W:World)(b:Nat)(x y z:Value)(hp:tmps.getD m undef=.pointer (some ⟨b,0,none⟩))
  (c0:W.cell? ⟨b,0,none⟩=some x)(c1:W.cell? ⟨b,1,none⟩=some y)(c2:W.cell? ⟨b,2,none⟩=some z) :
  (results fn tmps).run Tryz.prog W=.ok (.agg #[x,y,z]) W:=by
 simp only[Array.getD_eq_getD_getElem?]at hp
 rcases hT with rfl | rfl <;> simp[results,hf,go_sem,hp,c0,c1,c2]
theorem zmz(X Y Z:Str)(w:World) :
  Calls Tryz.prog 119 #[.agg #[.string ⟨X.toArray⟩,.string ⟨Y.toArray⟩,.string ⟨Z.toArray⟩]] w fun e w'=>e=.returned (.agg #[.string ⟨X.toArray⟩,.string ⟨Y.toArray⟩,.string ⟨Z.toArray⟩])∧Q w w':=by
 go_enter Tryz.func119,Tryz.ntmps119
 go_wp2
 have BB:=Blk.new (w.alloc (.cells #[.string ⟨X.toArray⟩,.string ⟨Y.toArray⟩,.string ⟨Z.toArray⟩] 184)) [.string ⟨X.toArray⟩,.string ⟨Y.toArray⟩,.string ⟨Z.toArray⟩] 183
 rw[World.size_alloc]at BB
 refine bodyPost_ret (v:=.agg #[.string ⟨X.toArray⟩,.string ⟨Y.toArray⟩,.string ⟨Z.toArray⟩]) (zse Tryz.results119 (.inr rfl) _ _ (w.heap.size+1) _ _ _ rfl (BB.cell 0) (BB.cell 1) (BB.cell 2)) rfl ⟨rfl,bt⟩
theorem zsn(x y z:Value)(w:World):(Instr.index 183 (.agg #[x,y,z]) (.int .i64 0)).run Tryz.prog w=.ok x w:=by kernel_rfl
theorem zsm(x y z:Value)(w:World):(Instr.index 183 (.agg #[x,y,z]) (.int .i64 1)).run Tryz.prog w=.ok y w:=by kernel_rfl
theorem zsl(x y z:Value)(w:World):(Instr.index 183 (.agg #[x,y,z]) (.int .i64 2)).run Tryz.prog w=.ok z w:=by kernel_rfl
end
section
open Go.RowKit Kp
open Go.Lib (decDigits)
theorem znl{q:Rat}{n:Nat}(h:Bd n q):((zo (Lib.itoa q.num)).length:Int)≤n∧((Lib.itoa (q.den:Int)).length:Int)≤n:=by
 have h1:(zo (Lib.itoa q.num)).length≤n:=by
  rw[zaY]
  rcases Nat.eq_zero_or_pos n with rfl | hn
  ·exact absurd h.2 (by have:=q.den_pos;simp;omega)
  ·exact(zl _ n hn).2 h.1
 have h2:(Lib.itoa (q.den:Int)).length≤n:=by
  rw[← zR]
  rcases Nat.eq_zero_or_pos n with rfl | hn
  ·exact absurd h.2 (by have:=q.den_pos;simp;omega)
  ·exact(zl _ n hn).2 h.2
 exact⟨by omega,by omega⟩
theorem zpJ(q:Rat)(h:Bd 36 q)(w:World)(hE:Env w) :
  Calls Tryz.prog 121 #[.string ⟨(ze q).toArray⟩] w fun e w'=>e=.returned (.bool false)∧Q w w':=by
 have HP:=LH (fun w hw=>zbw q (h.zav (by decide)) w hw)
 obtain⟨l1,l2⟩:=znl h
 clear h
 generalize ze q=S at *
 have hu:zo (Lib.itoa q.num)=zo (Lib.itoa q.num):=rfl
 generalize Lib.itoa (q.den:Int)=D at *
 have HT:=LH (fun w=>zQ (Lib.itoa q.num) w)
 generalize zo (Lib.itoa q.num)=U at *
 generalize Lib.itoa q.num=N at *
 clear hu
 have hm:decide ((36:Int)<max (U.length:Int) (D.length:Int))=false:=by rw[decide_eq_false_iff_not];omega
 go_enter Tryz.func121,Tryz.ntmps121
 have hQ0:=Q.refl w
 go_wp2_with fail
 refine(HP.out _ (hE.ofQ bt)).mono ?_
 rintro e w1⟨rfl,hq1⟩
 have hs1:Q w w1:=Q.trans bt hq1
 have hQ1:Q w w1:=Q.trans hQ0 hs1
 go_wp2_with fail
 refine(HT.out _).mono ?_
 rintro e w2⟨rfl,rfl⟩
 go_wp2
 go_ret
 refine⟨?_,hQ1⟩
 first | rfl | (show Ending.returned (Value.bool (decide _))=_;rw[hm])
theorem zoy(l:List Rat)(hl:∀ q∈l,Bd 36 q)(hn:l.length≤100)(v:Value)(w:World)(hE:Env w)(hv:zdh w v (l.map ze)) :
  Calls Tryz.prog 176 #[v,.func (.func 121) #[] #[]] w fun e w'=>e=.returned (.int .i64 (-1))∧Q w w':=by
 obtain⟨b,o,cap,rfl,hb,hc⟩:=hv
 rw[List.length_map]at hc
 rw[List.length_map]
 have HL:=LH hl
 clear hl
 go_enter Tryz.func176,Tryz.ntmps176
 go_wp2
 go_loopw [8] (fun i wr=>∃ k:Nat,k≤l.length∧i=.int .i64 k∧Q w wr) (fun i _=>l.length - (intOf i).toNat)
 case atStart=>exact⟨0,by omega,rfl,Below.refl _ _⟩
 case round =>
  obtain⟨k,hk,rfl,hQ⟩:=hrel
  by_cases hlt:k<l.length
  ·have hcell:=hc k hlt
   have hcell':wr.cell? ⟨b,o+k,none⟩=some (.string ⟨((l.map ze).getD k []).toArray⟩):=by rw[hQ.cell (p:=⟨b,o+k,none⟩) hb];exact hcell
   have hq:(l.map ze).getD k []=ze l[k]:=by rw[List.getD_eq_getElem?_getD,List.getElem?_map,List.getElem?_eq_getElem hlt];rfl
   rw[hq]at hcell'
   have HG:=LH (fun w hw=>zpJ l[k] (HL.out _ (List.getElem_mem hlt)) w hw)
   clear hcell hc hq HL
   generalize ze l[k]=S at *
   go_wp2_with fail
   refine(HG.out _ (hE.q hQ)).mono ?_
   rintro e w2⟨rfl,hq2⟩
   have hQ2:Q w w2:=Q.trans hQ hq2
   go_wp2
   go_roundw
   case rel=>exact⟨k+1,by omega,by go_num,hQ2⟩
   case measure=>simp[intOf];omega
  ·obtain rfl:k=l.length:=by omega
   go_wp2
   go_ret
   exact⟨rfl,hQ⟩
theorem zls(l:List Rat)(hl:∀ q∈l,Bd 36 q)(hn:l.length≤100)(v:Value)(w:World)(hE:Env w)(hv:zdh w v (l.map ze)) :
  Calls Tryz.prog 120 #[v,.func (.func 121) #[] #[]] w fun e w'=>e=.returned (.bool false)∧Q w w':=by
 have HI:=LH (zoy l hl hn v w hE hv)
 clear hl hv
 go_enter Tryz.func120,Tryz.ntmps120
 go_wp2_with fail
 refine HI.out.mono ?_
 rintro e w1⟨rfl,hq1⟩
 go_wp2
 go_ret
 exact⟨rfl,hq1⟩
theorem zdh.three{w:World}{b:Nat}{s1 s2 s3:Str}{t:TypeId}(h:Blk w b [.string ⟨s1.toArray⟩,.string ⟨s2.toArray⟩,.string ⟨s3.toArray⟩] t):zdh w (.slice (some ⟨b,0,none⟩) 3 3) [s1,s2,s3]:=by
 refine⟨b,0,3,rfl,h.lt,fun i hi=>?_⟩
 simp only[List.length_cons,List.length_nil]at hi
 have:i=0∨i=1∨i=2:=by omega
 rcases this with rfl | rfl | rfl
 ·exact h.cell 0
 ·exact h.cell 1
 ·exact h.cell 2
theorem znz{n:Nat}(p:P3)(h:B3 n p)(hn:n≤36)(w:World)(hE:Env w) :
  Calls Tryz.prog 68 #[V3 p] w fun e w'=>e=.returned (.bool false)∧Q w w':=by
 have HC:=LH (fun v w hw hv=>zls [p.x,p.y,p.z] (by
  intro q hq
  simp only[List.mem_cons,List.not_mem_nil,or_false]at hq
  rcases hq with rfl | rfl | rfl
  ·exact h.1.mono hn
  ·exact h.2.1.mono hn
  ·exact h.2.2.mono hn) (by simp) v w hw hv)
 clear h
 unfold V3
 have HC':Hid (∀ b t w,Env w→Blk w b [.string ⟨(ze p.x).toArray⟩,.string ⟨(ze p.y).toArray⟩,.string ⟨(ze p.z).toArray⟩] t →
   Calls Tryz.prog 120 #[.slice (some ⟨b,0,none⟩) 3 3,.func (.func 121) #[] #[]] w fun e w'=>e=.returned (.bool false)∧Q w w') :=
  LH (fun b t w hw hb=>HC.out _ w hw (zdh.three hb))
 clear HC
 generalize ze p.x=X at *
 generalize ze p.y=Y at *
 generalize ze p.z=Z at *
 go_enter Tryz.func68,Tryz.ntmps68
 have hQ0:=Q.refl w
 go_wp2_with fail
 refine(HC'.out (w.heap.size+1) 30 _ (hE.ofQ bt) (Blk.new1 w _ [.string ⟨X.toArray⟩,.string ⟨Y.toArray⟩,.string ⟨Z.toArray⟩] 30)).mono ?_
 rintro e w1⟨rfl,hq1⟩
 have hs1:Q w w1:=Q.trans bt hq1
 have hQ1:Q w w1:=Q.trans hQ0 hs1
 go_wp2
 go_ret
 exact⟨rfl,bt⟩
end
section
open Go.RowKit Kp
open Go.Lib (decDigits)
def LenAt(w:World)(B:Nat)(v:Value)(s:Rat):Prop:=(s=0∧v=.slice none 0 0)∨(0<s.num∧zbA w B v (aOf s) (leftOf s))
theorem LenAt.keep{w w':World}{B:Nat}{v:Value}{s:Rat}(h:LenAt w B v s)(hq:Q w w'):LenAt w' B v s :=
 h.elim .inl (fun h=>.inr ⟨h.1,zjZ h.2 hq⟩)
theorem LenAt.mono{w:World}{B B':Nat}{v:Value}{s:Rat}(h:LenAt w B v s)(hb:B'≤B):LenAt w B' v s :=
 h.elim .inl (fun h=>.inr ⟨h.1,Joins.ownsRow_le h.2 hb⟩)
end
section
open Go.RowKit Kp
open Go.Lib (decDigits)
end
section
open Go.RowKit Kp
open Go.Lib (decDigits)
end
section
open Go.RowKit Kp
open Go.Lib (decDigits)
theorem ziE(l2:List (Str × Str))(h2:0<l2.length)(n2:l2.length≤1000)(v2:Value)(b:Nat)(t:TypeId)(w:World)(hb:Blk w b [.slice none 0 0,v2] t)(s2:TSl w w.heap.size v2 l2) :
  Calls Tryz.prog 105 #[.slice (some ⟨b,0,none⟩) 2 2] w fun e w'=>∃ v,e=.returned v∧Q w w'∧w'.ownsRow w.heap.size 84 2 v l2.length (zcd l2):=by
 have S2:=LH s2
 obtain⟨b2,o2,cap2,rfl,-,-,-⟩:=s2.open h2
 have hg:=fun w=>zjf l2.length (by omega) (by omega) w
 have HG:=LH hg
 clear s2 hg
 have HN2:=LH (fun(W:World) (hq:Q w W) (j:Nat) (u:Value) (hu:(zcd l2)[j]? = some u)=>by
  obtain⟨b',o',cap',hv,_,_,hc⟩:=(S2.out.keep hq (Nat.le_refl _)).open h2
  cases hv
  exact hc j u hu)
 have HL2:=LH (zgu l2)
 have HO2:=LH (zgt l2)
 generalize zcd l2=r2 at *
 generalize l2.length=m2 at *
 have lb:=hb.lt
 obtain⟨i0,hi,hz0,hz1,hz2⟩:=zbs zcu
 have HI:=LH hi
 have HZ:=LH hz0
 have HS:=LH hz1
 have HBy:=LH hz2
 clear hi hz0 hz1 hz2
 have c0:=hb.cell 0
 have c1:=hb.cell 1
 simp only[zs4,zs5]at c0 c1
 have w1i:=Go.IntWalk.i64_in ((0:Int)+(m2:Int)) (by omega)
 go_enter Tryz.func105,Tryz.ntmps105
 go_wp2
 go_loop [3,11] (fun sz i=>(i=.int .i64 0∧sz=.int .i64 0)∨(i=.int .i64 1∧sz=.int .i64 0)∨(i=.int .i64 2∧sz=.int .i64 (m2:Int))) (fun _ i=>2 - (intOf i).toNat)
 case atStart=>exact .inl ⟨rfl,rfl⟩
 case round =>
  rcases hrel with⟨rfl,rfl⟩|⟨rfl,rfl⟩|⟨rfl,rfl⟩
  ·go_wp2
   go_round
   case rel=>exact .inr (.inl ⟨rfl,by first | rfl | go_num⟩)
   case measure=>simp[intOf]
  ·go_wp2
   go_round
   case rel=>exact .inr (.inr ⟨rfl,by go_num⟩)
   case measure=>simp[intOf]
  ·go_wp2_with fail
   refine(HG.out _).mono ?_
   rintro e w1⟨v,rfl,hq1,hr1,g1,gc1,rfl⟩
   clear c0 c1
   have hb1:=hb.keep hq1 lb
   go_wp2
   go_loopw [6,27] (fun o i wr=>Q w wr∧((i=.int .i64 0∧o=.slice (some ⟨g1,0,none⟩) 0 gc1∧wr.ownsRow w.heap.size 84 2 o 0 [])∨(i=.int .i64 1∧o=.slice (some ⟨g1,0,none⟩) 0 gc1∧wr.ownsRow w.heap.size 84 2 o 0 [])∨(i=.int .i64 2∧wr.ownsRow w.heap.size 84 2 o m2 r2))) (fun _ i _=>2 - (intOf i).toNat)
   case atStart=>exact⟨hq1,.inl ⟨rfl,rfl,hr1⟩⟩
   case round =>
    obtain⟨hQ,⟨rfl,rfl,hrow⟩|⟨rfl,rfl,hrow⟩|⟨rfl,hrow⟩⟩:=hrel
    ·have hbr:=hb.keep hQ lb
     have c0:=hbr.cell 0
     simp only[List.getElem?_cons_zero]at c0
     have lbr:=hbr.lt
     go_wp2
     try (go_quiet (fail);go_wp2)
     go_roundw
     case rel=>exact⟨hQ,.inr (.inl ⟨rfl,rfl,hrow⟩)⟩
     case measure=>simp[intOf]
    ·have hbr:=hb.keep hQ lb
     have c1:=hbr.cell 1
     simp only[zs4,zs5]at c1
     have lbr:=hbr.lt
     go_wp2_with (at_builtin;refine wpList_append_lies _ (by rfl) (.tmp 31) (.tmp 32) 46 (by rfl) w.heap.size 84 i0 _ 2 32 Tryz.underlying46 HI.out HZ.out HS.out HBy.out rfl (by decide) (.slice (some ⟨g1,0,none⟩) 0 gc1) 0 [] (by rfl) hrow ⟨b2,o2,none⟩ m2 cap2 r2 (by rfl) HL2.out (HN2.out _ hQ) HO2.out h2 (by unfold maxLen;omega) (by omega) hQ.size _ (by rfl) ?_;intro g4 cap4 w4 hown4 hgrow4 hat4 hlt4)
     go_roundw
     case rel=>exact⟨hQ.grown hgrow4 hQ.size (fun k hk=>(hrow.lt k hk).1),.inr (.inr ⟨rfl,by rw[Nat.zero_add,List.nil_append]at hown4;simpa using hown4⟩)⟩
     case measure=>simp[intOf]
    ·go_wp2
     go_ret
     exact⟨_,rfl,hQ,hrow⟩
theorem zb1(w:World):Calls Tryz.prog 42 #[.slice none 0 0] w fun e w'=>e=.returned (.int .i64 0)∧Q w w':=by
 go_enter Tryz.func42,Tryz.ntmps42
 go_wp2
 go_loopw [13] (fun i wr=>i=.int .i64 0∧wr=w) (fun _ _=>0)
 case atStart=>exact⟨rfl,rfl⟩
 case round =>
  obtain⟨rfl,rfl⟩:=hrel
  go_wp2
  go_ret
  exact⟨rfl,bt⟩
theorem zkv(x:Rat)(l:Nat)(hx:Term1 x l)(B:Nat)(v:Value)(w:World)(hE:Env w)(h:zbA w B v x l) :
  Calls Tryz.prog 39 #[.slice none 0 0,v] w fun e w'=>e=.returned (.bool true)∧Q w w':=by
 have HC:=LH (fun w hw hv=>zbu x l hx B v w hw hv)
 have HN:=LH (fun w=>zb1 w)
 have HV:=LH h
 clear hx h
 go_enter Tryz.func39,Tryz.ntmps39
 have hQ0:=Q.refl w
 go_wp2_with fail
 refine(HN.out _).mono ?_
 rintro e w1⟨rfl,hq1⟩
 have hs1:Q w w1:=Q.trans bt hq1
 have hQ1:Q w w1:=Q.trans hQ0 hs1
 go_wp2_with fail
 refine(HC.out _ (hE.q hQ1) (zjZ HV.out hQ1)).mono ?_
 rintro e w2⟨rfl,hq2⟩
 have hs2:Q w1 w2:=Q.trans bt hq2
 have hQ2:Q w w2:=Q.trans hQ1 hs2
 go_wp2
 go_ret
 exact⟨rfl,bt⟩
theorem zjA{n:Nat}(x c:Rat)(l:Nat)(hx:Term1 x l)(bx:Bd 40 x)(bc:Bd n c)(hn:n≤20)(hc0:c≠0)(hl:l<10 ^ 40)(B:Nat)(v:Value)(w:World)(hE:Env w)(hv:zbA w B v x l) :
  Calls Tryz.prog 11 #[v,.string ⟨(ze c).toArray⟩] w fun e w'=>∃ v',e=.returned (.tuple #[v',.int .i64 0])∧Q w w'∧zbA w' w.heap.size v' (x*c) l:=by
 have HC:=LH (zbu x l hx B v w hE hv)
 have HR:=LH (fun w hw=>zw c (bc.zav (by omega)) w hw)
 have hsc:=fun v w hw hs=>zfP [(x,l)] c (bc.mono (by omega)) (fun t ht=>by rw[List.mem_singleton]at ht;subst ht;exact bx.mono (by decide)) (by simp) v w hw hs
 rw[show (zdm c [(x,l)]).map ofC=[ofC (x*c,l)] by simp[zdm]]at hsc
 have HSC:=LH hsc
 have hb:Bd 60 (x*c):=(bx.mul bc).mono (by omega)
 have hne:x*c≠0:=fun e=>by
  rcases Rat.mul_eq_zero.1 e with h | h
  ·exact hx.ne h
  ·exact hc0 h
 have hlq:Bd 42 (l:Rat):=⟨by rw[Rat.num_natCast,Int.natAbs_natCast];exact Nat.lt_of_lt_of_le hl (by decide),by rw[Rat.den_natCast];exact by decide⟩
 have hl40:Bd 40 (l:Rat):=⟨by rw[Rat.num_natCast,Int.natAbs_natCast];exact hl,by rw[Rat.den_natCast];exact by decide⟩
 have hmk:∀ (rest:List Value) (cap b:Nat) (t:TypeId) (w:World),Env w→Blk w b (.string ⟨(ze (x*c)).toArray⟩::.string ⟨(Lib.itoa (l:Int)).toArray⟩::rest) t →
   Calls Tryz.prog 38 #[.slice (some ⟨b,0,none⟩) 1 cap] w fun e w'=>∃ v',e=.returned (.tuple #[v',.int .i64 0])∧Q w w'∧zbA w' w.heap.size v' (x*c) l:=fun rest cap b t w hw hb'=>by
  have h:=zb0 (rest:=rest) (cap:=cap) (x*c) (l:Rat) hb (by decide) hne hlq (by rw[Rat.num_natCast];have:=hx.norm.1;omega) b t w hw (by rw[zaO];exact hb')
  have hp:=zd5 hx.norm
  rw[hp.1,Rat.mul_one,zfq,hp.2]at h
  refine h.mono fun e w' he=>?_
  obtain⟨hq,v,hv,hs⟩:=zcH.good (l:=l) he (by have:=za7 hb (by decide);omega) (by have:=za7 hl40 (by decide);omega)
  exact⟨v,hv,hq,hs⟩
 have HMK:=LH hmk
 have r1:Hid (w.ownsRow B 84 2 v ([(x,l)].map ofC).length (zcd ([(x,l)].map ofC))):=LH hv
 obtain⟨g1,c1,rfl,-,-⟩:=World.ownsRow.form hv (by omega)
 clear hx bx bc hn hc0 hl hsc hb hne hlq hl40 hmk hv
 unfold zbA at HMK ⊢
 have hP1:(ofC (x*c,l)).1=ze (x*c):=rfl
 have hP2:(ofC (x*c,l)).2=Lib.itoa (l:Int):=rfl
 rw[← hP1,← hP2]at HMK
 rw[← hP1,← hP2]
 clear hP1 hP2
 generalize ofC (x*c,l)=P1 at *
 generalize ze c=C at *
 go_enter Tryz.func11,Tryz.ntmps11
 go_wp2_with fail
 refine HC.out.mono ?_
 rintro e w1⟨rfl,hq1⟩
 go_wp2_with fail
 refine(HR.out _ (hE.q hq1)).mono ?_
 rintro e w2⟨rfl,hq2⟩
 have hQ2:=Q.trans hq1 hq2
 go_wp2_with fail
 refine(HSC.out _ _ (hE.q hQ2) (TSl.of_row (zi r1.out hQ2))).mono ?_
 rintro e w3⟨v3,rfl,hq3,hr3⟩
 have hQ3:=Q.trans hQ2 hq3
 obtain⟨g3,c3,rest3,rfl,-,hb3⟩:=zkE (P:=.string ⟨P1.1.toArray⟩) (R:=.string ⟨P1.2.toArray⟩) hr3
 clear hr3
 go_wp2_with fail
 refine(HMK.out rest3 c3 g3 _ _ (hE.q hQ3) hb3).mono ?_
 rintro e w4⟨v4,rfl,hq4,hr4⟩
 have hQ4:=Q.trans hQ3 hq4
 have R4:=LH (Joins.ownsRow_le hr4 hQ3.size)
 clear hr4
 go_wp2
 go_ret2
 exact⟨_,rfl,hQ4,R4.out⟩
end
end Go.Proofs.YtbpghkdadajomaaGreatDoor
namespace Kp
end Kp
namespace Go.Proofs.YtbpghkdadajomaaGreatDoor
section
open Go.RowKit Kp
open Go.Lib (decDigits)
theorem zdO{a:Int}{n:Nat}(h:a.natAbs<10 ^ n)(hn:0<n):Bd n (a:Rat):=⟨by rw[Rat.num_intCast];exact h,by rw[Rat.den_intCast];exact Nat.one_lt_pow (by omega) (by decide)⟩
end
section
open Go.RowKit Kp
open Go.Lib (decDigits)
end
section
open Go.RowKit Kp
theorem zfC{F:Fence}{m:Nat}{P:Program}{md:Region.Mode}{ops:Array Oper}{R:Exit→Act→World→Prop}:∀ (l:List Oper) (k:Nat) (listed:Array Bool) (a:Act) (w:World),(∀ j,l[j]? = ops[k+j]?) →
  Region.seqB md ops l.length k listed=true→wpListIn F m P ops R l a w→wpAnyIn F m P md ops R l.length listed a w
 | [],_,_,_,_,_,hB,h=>⟨by simpa[Region.seqB]using hB,h⟩
 | o::l,k,listed,a,w,hl,hB,h=>by
  have h0:ops[k]? = some o:=by simpa using(hl 0).symm
  simp only[List.length_cons,Region.seqB,Bool.and_eq_true,decide_eq_true_eq]at hB
  refine⟨fun h1=>(by rw[hB.1]at h1;cases h1),fun i hi=>?_⟩
  rw[hB.1]at hi
  have hik:i=k:=by simpa using hi
  subst hik
  have hw:wpOpIn F m P ops R i (wpListIn F m P ops R l) a w:=by unfold wpOpIn;simp only[h0];exact h
  exact wpOpIn_mono (fun a' w' h'=>zfC l (i+1) _ a' w' (fun j=>by have:=hl (j+1);simpa[Nat.add_assoc,Nat.add_comm 1 j]using this) hB.2 h') hw
namespace RT
def zeI:Exit→Act→World→Prop:=zbM fun _ _=>True
section
variable {P:Program} {l:List Oper} {T:Act→World→Prop} {R:Exit→Act→World→Prop} {md:Region.Mode} {n m:Nat}
def zeF(P:Program)(md:Region.Mode)(l:List Oper)(T:Act→World→Prop)(n:Nat):Nat→Array Bool→Act→World→Prop
 | 0,ls,a,w=>Region.seqB md l.toArray (l.toArray.size - n) n ls=true∧∀ w',Q w w'→T a w'
 | f+1,ls,a,w=>Region.ready md l.toArray ls≠[] ∧
  ∀ i∈Region.ready md l.toArray ls,i<n∧∀ w',Q w w'→wpOp P l.toArray zeI i (fun a' w''=>Q w' w''∧zeF P md l T n f (ls.setIfInBounds i true) a' w'') a w'
theorem zeF.later:∀ {f:Nat} {ls:Array Bool} {a:Act} {w w':World},zeF P md l T n f ls a w→Q w w'→zeF P md l T n f ls a w'
 | 0,_,_,_,_,h,hq=>⟨h.1,fun _ h1=>h.2 _ (hq.trans h1)⟩
 | _+1,_,_,_,_,h,hq=>⟨h.1,fun i hi=>⟨(h.2 i hi).1,fun _ h1=>(h.2 i hi).2 _ (hq.trans h1)⟩⟩
theorem znL{ops:Array Oper}{i:Nat}{N:Act→World→Prop}{a:Act}{w:World}(h:wpOp P ops zeI i N a w):wpOpIn Fence.wide m P ops R i N a w:=by
 unfold wpOp at h
 unfold wpOpIn
 split
 ·next he=>simp only[he]at h;exact h
 ·next o ho =>
  simp only[ho]at h
  split
  ·next hw =>
   rw[if_pos hw]at h
   rcases h with h | ⟨_,h⟩
   ·refine⟨fun _ _=>trivial,?_⟩
    rw[show Fence.wide.round=none from rfl,Oper.semAt_none]
    unfold Oper.wp at h
    generalize (execOp a.eval o).run P w=r at h ⊢
    match r,h with
    | .ok (.value v) w',h=>exact h
    | .ok .skip w',h=>exact h
    | .ok (.defer d) w',h=>exact h
    | .ok (.enter f args) w',h =>
     refine⟨fun hd=>(by cases hd),callsIn_wide.2 (Calls.mono h fun e w'' he=>?_)⟩
     match e,he with
     | .returned v,he=>exact he
     | .panicked c,he=>exact he.elim
     | .outgrown,he=>exact absurd he (zgY _)
    | .ok (.row row args) w',h=>exact⟨fun hd=>(by cases hd),fun c cs _=>by
      obtain⟨v,w',hs,st⟩:=h c cs
      exact⟨v,w',hs,stepsIn_wide.2 st⟩⟩
    | .halt x w',h =>
     cases x <;> first | exact h.elim | exact False.elim h
   ·exact absurd h (zgY _)
  ·next hw =>
   rw[if_neg hw]at h
   exact⟨fun _ _=>trivial,h⟩
theorem zeF.any(hn:n≤l.length):∀ {f:Nat} {ls:Array Bool} {a:Act} {w:World},zeF P md l (fun a w=>wpListIn Fence.wide m P l.toArray R (l.drop n) a w) n f ls a w→wpAnyIn Fence.wide m P md l.toArray R (f+(l.toArray.size - n)) ls a w
 | 0,ls,a,w,h=>by
  rw[Nat.zero_add]
  have hd:(l.drop n).length=l.toArray.size - n:=by simp
  have:=zfC (F:=Fence.wide) (m:=m) (P:=P) (md:=md) (R:=R) (l.drop n) n ls a w (fun j=>by simp[List.getElem?_drop]) (by rw[hd];exact h.1) (h.2 w (Q.refl w))
  rwa[hd]at this
 | f+1,ls,a,w,h=>by
  rw[show f+1+(l.toArray.size - n)=(f+(l.toArray.size - n))+1 by omega]
  exact⟨fun e=>absurd e h.1,fun i hi=>znL (wpOp_mono (fun _ _ h'=>zeF.any hn h'.2) ((h.2 i hi).2 w (Q.refl w)))⟩
theorem zlA{i:Nat}{oi:Oper}{v:Value}(hi:l.toArray[i]? = some oi)(hB:zev md l.toArray n=true)(hin:i<n)
  (hR:∀ c a w,zeI (.panic c) (a.put oi.dst v) w→zeI (.panic c) a w) :
  ∀ (f:Nat) (ls:Array Bool) (a:Act) (w:World),HeadInv md l.toArray n ls →
   (∀ j oj,l.toArray[j]? = some oj→j≠i→ls.getD j true=false→(∀ e∈oj.after,Region.binds md e=true→e.on≠i)→oi.apart l.toArray oj=true) →
   i∈Region.ready md l.toArray ls→Does P l.toArray oi v a w →
   zeF P md l T n f (ls.setIfInBounds i true) (a.put oi.dst v) w→zeF P md l T n (f+1) ls a w:=by
 intro f
 induction f with
 | zero =>
  intro ls a w inv _ hr hd H
  refine⟨fun h=>(by rw[h]at hr;cases hr),fun j hj=>⟨zb9 hB inv hin hr j hj,fun w' hq=>?_⟩⟩
  by_cases hji:j=i
  ·subst hji
   exact hd.wpOp hi hq fun w'' hq'=>⟨hq',zeF.later (f:=0) H (hq.trans hq')⟩
  ·have h1:=zb9 hB inv hin hr j hj
   have h2:=seqB_ready H.1 j (ready_mono hj hji)
   omega
 | succ f ih =>
  intro ls a w inv hf hr hd H
  refine⟨fun h=>(by rw[h]at hr;cases hr),fun j hj=>?_⟩
  have hjn:=zb9 hB inv hin hr j hj
  refine⟨hjn,fun w' hq=>?_⟩
  by_cases hji:j=i
  ·subst hji
   exact hd.wpOp hi hq fun w'' hq'=>⟨hq',H.later (hq.trans hq')⟩
  ·have h1:=(H.2 j (ready_mono hj hji)).2 w' hq
   obtain⟨hjun,oj,hoj,hall⟩:=mem_ready.1 hj
   have hno:∀ e∈oj.after,Region.binds md e=true→e.on≠i:=fun e he hb heq=>by
    have h1:=hall e he hb
    rw[heq,getD_both (mem_ready.1 hr).1]at h1
    cases h1
   have h2:=zfl hoj (hf j oj hoj hji hjun hno) (fun cs b=>zcY hB i oi cs b hi) (fun cs b=>zcY hB j oj cs b hoj) hR h1
   have hf':∀ k ok,l.toArray[k]? = some ok→k≠i→(ls.setIfInBounds j true).getD k true=false →
     (∀ e∈ok.after,Region.binds md e=true→e.on≠i)→oi.apart l.toArray ok=true:=fun k ok hk hki hun hn=>by
    by_cases hjk:j=k
    ·subst hjk;exact hf j ok hk hki hjun hn
    ·rw[getD_set_ne true hjk]at hun
     exact hf k ok hk hki hun hn
   refine wpOp_mono (fun a' w'' h3=>⟨h3.2.1,ih (ls.setIfInBounds j true) a' w'' (inv.set hj hjn) hf' (ready_mono hr (Ne.symm hji)) (hd.alike h3.1 (hq.trans h3.2.1)) ?_⟩) h2
   rw[Array.setIfInBounds_comm _ _ hji]
   exact h3.2.2
def zk(P:Program)(md:Region.Mode)(l:List Oper)(T:Act→World→Prop)(n f:Nat)(ls:Array Bool)(a:Act)(w:World):Prop :=
 zev md l.toArray n=true→HeadInv md l.toArray n ls→zeF P md l T n f ls a w
theorem zaB(n:Nat){id:Nat}{a:Act}{w:World}(hm:P.follows .mixedOrders=true)(hB:zev .any l.toArray n=true)(hn:decide (n≤l.length)=true)
  (h:zk P .any l (fun a w=>wpListIn Fence.wide m P l.toArray R (l.drop n) a w) n n (Array.replicate l.toArray.size false) a w.drew):(Code.region id l.toArray true).wpIn Fence.wide m P R a w:=by
 have hn':n≤l.length:=by simpa using hn
 have inv0:HeadInv .any l.toArray n (Array.replicate l.toArray.size false) :=
  ⟨by simp,fun j oj _ hl=>(by rw[getD_replicate_false]at hl;cases hl),fun t _ ht=>getD_in (by simpa using ht) (getD_replicate_false _ _)⟩
 refine wpIn_region_any hm ?_
 have:=zeF.any hn' (h hB inv0)
 rwa[show n+(l.toArray.size - n)=l.toArray.size by simp;omega]at this
theorem zU{i:Nat}{oi:Oper}{v:Value}{f:Nat}{ls:Array Bool}{a:Act}{w:World}(hi:l[i]? = some oi)(hin:decide (i<n)=true)
  (hf:Region.free md l.toArray ls i=true)(hr:(Region.ready md l.toArray ls).contains i=true)
  (hR:∀ c a w,zeI (.panic c) (a.put oi.dst v) w→zeI (.panic c) a w)(hd:Does P l.toArray oi v a w)
  (h:zk P md l T n f (ls.setIfInBounds i true) (a.put oi.dst v) w):zk P md l T n (f+1) ls a w:=fun hB inv=>by
 have hr':i∈Region.ready md l.toArray ls:=by simpa using hr
 have hin':i<n:=by simpa using hin
 exact zlA (zcc hi) hB hin' hR f ls a w inv (Region.free_spec (zcc hi) hf) hr' hd (h hB (inv.set hr' hin'))
theorem zT{i:Nat}{oi:Oper}{v:Value}{f:Nat}{ls:Array Bool}{a:Act}{w:World}(hi:l[i]? = some oi)(hin:decide (i<n)=true)
  (hf:Region.free md l.toArray ls i=true)(hr:(Region.ready md l.toArray ls).contains i=true)
  (hR:∀ c a w,zeI (.panic c) (a.put oi.dst v) w→zeI (.panic c) a w)(hw:Region.wanted oi (yielded l.toArray a.tmps)=true)
  (hx:∀ w',Q w w'→(execOp a.eval oi).run P w'=.ok (.value v) w')
  (h:zk P md l T n f (ls.setIfInBounds i true) (a.put oi.dst v) w):zk P md l T n (f+1) ls a w :=
 zU hi hin hf hr hR (.inl ⟨hw,hx⟩) h
theorem zbn{i:Nat}{oi:Oper}{f:Nat}{ls:Array Bool}{a:Act}{w:World}(hi:l[i]? = some oi)(hin:decide (i<n)=true)
  (hf:Region.free md l.toArray ls i=true)(hr:(Region.ready md l.toArray ls).contains i=true)
  (hR:∀ c a w,zeI (.panic c) (a.put oi.dst undef) w→zeI (.panic c) a w)(hw:Region.wanted oi (yielded l.toArray a.tmps)=false)
  (h:zk P md l T n f (ls.setIfInBounds i true) (a.put oi.dst undef) w):zk P md l T n (f+1) ls a w :=
 zU hi hin hf hr hR (.inr (.inr ⟨hw,rfl⟩)) h
theorem svp(i:Nat){oi:Oper}{v:Value}{f:Nat}{ls:Array Bool}{a a':Act}{w:World}
  (h:zk P md l T n f (ls.setIfInBounds i true) a' w)(hi:l[i]? = some oi:=by exact rfl)(hin:decide (i<n)=true:=by exact rfl)
  (hf:Region.free md l.toArray ls i=true:=by kernel_rfl)(hr:(Region.ready md l.toArray ls).contains i=true:=by kernel_rfl)
  (hw:Region.wanted oi (yielded l.toArray a.tmps)=true:=by rfl)
  (hx:∀ w',Q w w'→(execOp a.eval oi).run P w'=.ok (.value v) w':=by intro w' hq;go_simp;try with_reducible rfl)
  (hR:∀ c a w,zeI (.panic c) (a.put oi.dst v) w→zeI (.panic c) a w:=by exact fun _ _ _ h=>h)
  (ha:a.put oi.dst v=a':=by simp only[Act.put,zs1,zs2,zs3];exact rfl):zk P md l T n (f+1) ls a w :=
 zT hi hin hf hr hR hw hx (ha ▸ h)
theorem svq(i:Nat){oi:Oper}{v:Value}{f:Nat}{ls:Array Bool}{a a':Act}{w:World}(hi:l[i]? = some oi)
  (hx:∀ w',Q w w'→(execOp a.eval oi).run P w'=.ok (.value v) w')
  (h:zk P md l T n f (ls.setIfInBounds i true) a' w)(hin:decide (i<n)=true:=by exact rfl)
  (hf:Region.free md l.toArray ls i=true:=by kernel_rfl)(hr:(Region.ready md l.toArray ls).contains i=true:=by kernel_rfl)
  (hw:Region.wanted oi (yielded l.toArray a.tmps)=true:=by rfl)
  (hR:∀ c a w,zeI (.panic c) (a.put oi.dst v) w→zeI (.panic c) a w:=by exact fun _ _ _ h=>h)
  (ha:a.put oi.dst v=a':=by simp only[Act.put,zs1,zs2,zs3];exact rfl):zk P md l T n (f+1) ls a w :=
 zT hi hin hf hr hR hw hx (ha ▸ h)
theorem svi(i:Nat){oi:Oper}{f:Nat}{ls:Array Bool}{a a':Act}{w:World}
  (h:zk P md l T n f (ls.setIfInBounds i true) a' w)(hi:l[i]? = some oi:=by exact rfl)(hin:decide (i<n)=true:=by exact rfl)
  (hf:Region.free md l.toArray ls i=true:=by kernel_rfl)(hr:(Region.ready md l.toArray ls).contains i=true:=by kernel_rfl)
  (hw:Region.wanted oi (yielded l.toArray a.tmps)=false:=by rfl)
  (hR:∀ c a w,zeI (.panic c) (a.put oi.dst undef) w→zeI (.panic c) a w:=by exact fun _ _ _ h=>h)
  (ha:a.put oi.dst undef=a':=by simp only[Act.put,zs1,zs2,zs3];exact rfl):zk P md l T n (f+1) ls a w :=
 zbn hi hin hf hr hR hw (ha ▸ h)
theorem zf{i:Nat}{oi:Oper}{v:Value}{n f:Nat}{ls:Array Bool}{a:Act}{w:World}{g:FuncId}{args:Array Value}(hi:l[i]? = some oi)(hin:decide (i<n)=true)
  (hf:Region.free md l.toArray ls i=true)(hr:(Region.ready md l.toArray ls).contains i=true)
  (hR:∀ c a w,zeI (.panic c) (a.put oi.dst v) w→zeI (.panic c) a w)(hw:Region.wanted oi (yielded l.toArray a.tmps)=true)
  (hx:∀ w',Q w w'→(execOp a.eval oi).run P w'=.ok (.enter g args) w')
  (hc:∀ w',Q w w'→Calls P g args w' fun e w''=>e=.returned v∧Q w' w'')
  (h:zk P md l T n f (ls.setIfInBounds i true) (a.put oi.dst v) w):zk P md l T n (f+1) ls a w :=
 zU hi hin hf hr hR (.inr (.inl ⟨hw,g,args,hx,hc⟩)) h
theorem zh{ls:Array Bool}{a:Act}{w:World}(hB:Region.seqB md l.toArray (l.toArray.size - n) n ls=true)(h:∀ w',Q w w'→T a w'):zk P md l T n 0 ls a w :=
 fun _ _=>⟨hB,h⟩
end
end RT
end
section
open Go.RowKit Kp
def zbZ{α:Type}(k:Nat)(enc:α→List Value)(w:World)(v:Value)(l:List α):Prop:=∃ a cap,v=.slice a l.length cap∧∀ i (h:i<l.length),∃ b o,a=some ⟨b,o,none⟩∧b<w.heap.size∧∀ j u,(enc l[i])[j]? = some u→w.cell? ⟨b,o+i*k+j,none⟩=some u
section
variable {α:Type} {k:Nat} {enc:α→List Value}
theorem zbZ.keepB{w w':World}{B:Nat}{v:Value}{l:List α}(h:zbZ k enc w v l)(hq:Below B w w')(hB:w.heap.size≤B):zbZ k enc w' v l:=by
 obtain⟨a,cap,rfl,hc⟩:=h
 refine⟨a,cap,rfl,fun i hi=>?_⟩
 obtain⟨b,o,ha,hb,h⟩:=hc i hi
 exact⟨b,o,ha,Nat.lt_of_lt_of_le hb hq.size,fun j u hu=>(hq.cell (p:=⟨b,o+i*k+j,none⟩) (show b<B by omega)).trans (h j u hu)⟩
theorem zbZ.keep{w w':World}{v:Value}{l:List α}(h:zbZ k enc w v l)(hq:Q w w'):zbZ k enc w' v l:=h.keepB hq (Nat.le_refl _)
theorem zbZ.nil(w:World)(a:Option Addr)(cap:Nat):zbZ k enc w (.slice a 0 cap) ([]:List α):=⟨a,cap,rfl,fun _ hi=>absurd hi (Nat.not_lt_zero _)⟩
def rowOf(enc:α→List Value)(l:List α):List Value:=l.flatMap enc
theorem ziK(hk:∀ x,(enc x).length=k):∀ l:List α,(rowOf enc l).length=l.length*k
 | []=>by simp[rowOf]
 | x::l=>by
  have ih:=ziK hk l
  unfold rowOf at *
  rw[List.flatMap_cons,List.length_append,hk,ih,List.length_cons,Nat.succ_mul];omega
theorem zcR(hk:∀ x,(enc x).length=k):∀ (l:List α) (i:Nat) (h:i<l.length) (j:Nat),j<k→(rowOf enc l)[i*k+j]? = (enc l[i])[j]?
 | [],i,h,_,_=>absurd h (Nat.not_lt_zero _)
 | x::l,0,_,j,hj=>by
  unfold rowOf
  rw[List.flatMap_cons,Nat.zero_mul,Nat.zero_add,List.getElem?_append_left (by rw[hk];exact hj)];rfl
 | x::l,i+1,h,j,hj=>by
  have ih:=zcR hk l i (by simpa using h) j hj
  unfold rowOf at *
  rw[List.flatMap_cons,List.getElem?_append_right (by rw[hk,Nat.succ_mul];omega),hk,show (i+1)*k+j - k=i*k+j by rw[Nat.succ_mul];omega]
  exact ih
theorem zj0(l:List α)(x:α):rowOf enc (l++[x])=rowOf enc l++enc x:=by unfold rowOf;rw[List.flatMap_append];simp
theorem zbZ.of_row{w:World}{B:Nat}{t:TypeId}{v:Value}{l:List α}(hk:∀ x,(enc x).length=k)(h:w.ownsRow B t k v l.length (rowOf enc l)):zbZ k enc w v l:=by
 have h0:=h
 rcases h.2 with⟨rfl,hn⟩|⟨g,cap,cur,rfl,hg,hc,hnc,hcm,hsz,htk⟩
 ·exact⟨none,0,by rw[hn],fun i hi=>by omega⟩
 ·refine⟨_,cap,rfl,fun i hi=>⟨g,0,rfl,(Array.getElem?_eq_some_iff.1 hc).1,fun j u hu=>?_⟩⟩
  have hj:j<k:=by have:=(List.getElem?_eq_some_iff.1 hu).1;rwa[hk]at this
  have hb:i*k+j<l.length*k:=by
   have h1:=Nat.mul_le_mul_right k (show i+1≤l.length from hi)
   rw[Nat.succ_mul]at h1;omega
  rw[Nat.zero_add,World.ownsRow.cellAt h0 (i*k+j) hb,zcR hk l i hi j hj]
  exact hu
end
theorem zdg{P:Program}{o:Oper}{ev:Operand→Value}(ty:TypeId)(x:Operand)(ho:o.op=.load ty x)(g:Nat)(hx:ev x=.pointer (some ⟨g,0,none⟩)){t:TypeId}{cs:List Value}{W:World}(hb:Blk W g cs t)(d:TypeDesc)
  (hu:P.underlying ty=some d)(hd:(match d with | .struct _ | .array _ _=>true | _=>false)=true)(hi:(P.info? ty).map (·.size)=some cs.length) :
  (execOp ev o).run P W=.ok (.value (.agg cs.toArray)) W:=by
 unfold execOp
 simp only[ho,hx,Instr.loadAt,Instr.sureAddr,Sem.run_bind,Sem.run_pure,Result.andThen_ok,run_loadVar_row W g t ty cs.toArray (0,0) d hb hu hd (by simpa using hi)]
end
end Go.Proofs.YtbpghkdadajomaaGreatDoor
