/-
  The law of what is left at a birdsmouth: its walk.
-/
import Derived.Test.YtbpghkdadajomaaGreatDoorG19
import Derived.Test.YtbpghkdadajomaaGreatDoorG21
set_option maxRecDepth 100000
set_option maxHeartbeats 8000000
namespace Go.Proofs.YtbpghkdadajomaaGreatDoor
open Go.RowKit Go.Shelf Kp
attribute [local go_sem] Oper.semAt_some
def LfV(W:World)(B:Nat)(v:Value)(c:Rat)(l:Nat):Prop:=(c=0∧v=.slice none 0 0)∨(c≠0∧zbA W B v c l)
theorem LfV.keep{W W':World}{B:Nat}{v:Value}{c:Rat}{l:Nat}(h:LfV W B v c l)(hq:Q W W'):LfV W' B v c l:=h.elim .inl (fun h=>.inr ⟨h.1,zi h.2 hq⟩)
theorem LfV.low{W:World}{a b:Nat}{v:Value}{c:Rat}{l:Nat}(h:LfV W a v c l)(hb:b≤a):LfV W b v c l:=h.elim .inl (fun h=>.inr ⟨h.1,ziT h.2 hb⟩)
theorem zfN{c:Rat}{l:Nat}(hc:c≠0)(b:Bd 40 c)(hl:zg6 l)(bl:l<10 ^ 16):Term1 c l :=
 ⟨b.zav (by decide),hc,by have:=za7 b (by decide);omega,hl,⟨by rw[Rat.num_natCast,Int.natAbs_natCast];exact Nat.lt_of_lt_of_le bl (by decide),by rw[Rat.den_natCast];exact by decide⟩⟩
theorem zsh:zg6 1:=⟨by decide,zd7⟩
theorem zrE(c r:Rat)(bc:Bd 8 c)(br:Bd 4 r)(hp:0<r.num)(b:Nat)(t:TypeId)(w:World)(hE:Env w)(hb:Blk w b [.string ⟨(ze c).toArray⟩,.string ⟨(ze r).toArray⟩] t) :
  Calls Tryz.prog 38 #[.slice (some ⟨b,0,none⟩) 1 1] w fun e w'=>∃ v,e=.returned (.tuple #[v,.int .i64 0])∧Q w w'∧LfV w' w.heap.size v (c*aOf r) (leftOf r):=by
 by_cases h0:c=0
 ·subst h0
  rw[zah]at hb
  refine(zic r (br.zav (by decide)) (by omega) b t w hE hb).mono ?_
  rintro e w'⟨rfl,hq⟩
  exact⟨_,rfl,hq,.inl ⟨Rat.zero_mul _,rfl⟩⟩
 ·refine(zb0 c r bc (by decide) h0 (br.mono (by decide)) hp b t w hE hb).mono ?_
  intro e w' he
  have ba:=zmw br hp
  rw[zfq]at he
  have bl:=zpC br hp (by decide)
  rw[zfq]at bl
  obtain⟨hq,v,hv,hs⟩:=zcH.good he (by have:=za7 (bc.mul ba) (by decide);omega) (by have:=za7 bl (by decide);omega)
  refine⟨v,hv,hq,.inr ⟨fun e=>?_,hs⟩⟩
  rcases Rat.mul_eq_zero.1 e with h | h
  ·exact h0 h
  ·exact zrj br hp h
theorem zsk(c:Rat)(l:Nat)(bc:Bd 20 c)(hl:zg6 l)(bl:l<10 ^ 16)(B:Nat)(v:Value)(w:World)(hE:Env w)(hv:LfV w B v c l) :
  Calls Tryz.prog 9 #[v,v] w fun e w'=>∃ v',e=.returned (.tuple #[v',.int .i64 0])∧Q w w'∧LfV w' w.heap.size v' (c*c*(l:Rat)) 1:=by
 rcases hv with⟨rfl,rfl⟩|⟨h0,hs⟩
 ·refine(zlG w).mono ?_
  rintro e w'⟨rfl,hq⟩
  exact⟨_,rfl,hq,.inl ⟨by rw[Rat.zero_mul,Rat.zero_mul],rfl⟩⟩
 ·have ht:=zfN h0 (bc.mono (by decide)) hl bl
  have bl2:Bd 16 (l:Rat):=⟨by rw[Rat.num_natCast,Int.natAbs_natCast];exact bl,by rw[Rat.den_natCast];exact by decide⟩
  refine(zjC c c l ht ht bc bc bl2 B B v v w hE hs hs).mono ?_
  rintro e w'⟨v',rfl,hq,hs'⟩
  refine⟨_,rfl,hq,.inr ⟨fun e=>?_,hs'⟩⟩
  rcases Rat.mul_eq_zero.1 e with h | h
  ·rcases Rat.mul_eq_zero.1 h with h | h <;> exact h0 h
  ·have:(l:Rat)≠0:=by
    intro h
    have h2:l=0:=by exact_mod_cast h
    have:=hl.1
    omega
   exact this h
theorem zqz(c k:Rat)(bc:Bd 40 c)(bk:Bd 4 k)(hk:k≠0)(B:Nat)(v:Value)(w:World)(hE:Env w)(hv:LfV w B v c 1) :
  Calls Tryz.prog 11 #[v,.string ⟨(ze k).toArray⟩] w fun e w'=>∃ v',e=.returned (.tuple #[v',.int .i64 0])∧Q w w'∧LfV w' w.heap.size v' (c*k) 1:=by
 rcases hv with⟨rfl,rfl⟩|⟨h0,hs⟩
 ·refine(zjB k (bk.zav (by decide)) w hE).mono ?_
  rintro e w'⟨rfl,hq⟩
  exact⟨_,rfl,hq,.inl ⟨Rat.zero_mul _,rfl⟩⟩
 ·refine(zjA c k 1 (zfN h0 bc zsh (by decide)) bc bk (by decide) hk (by decide) B v w hE hs).mono ?_
  rintro e w'⟨v',rfl,hq,hs'⟩
  refine⟨_,rfl,hq,.inr ⟨fun e=>?_,hs'⟩⟩
  rcases Rat.mul_eq_zero.1 e with h | h
  ·exact h0 h
  ·exact hk h
theorem zqy(c:Rat)(bc:Bd 40 c)(B:Nat)(v:Value)(w:World)(hE:Env w)(hv:LfV w B v c 1) :
  Calls Tryz.prog 12 #[v] w fun e w'=>e=.returned (.tuple #[.string ⟨(ze c).toArray⟩,.bool true,.int .i64 0])∧Q w w':=by
 rcases hv with⟨rfl,rfl⟩|⟨h0,hs⟩
 ·rw[zah]
  exact zjz w
 ·exact zjy c (zfN h0 bc zsh (by decide)) B v w hE hs
theorem zo9{x y:Rat}{l:Nat}(h:x<y)(hl:0<l)(bx:Bd 20 x)(bY:Bd 20 y)(bl:l<10 ^ 16) :
  zkC (zly (zeK (zdz [(x,l)] (-y,l))))=some (-1)∧(∀ c∈zdz [(x,l)] (-y,l),Bd 50 c.1∧0<c.2∧c.2<10 ^ 16):=by
 have hl0:(l:Rat)≠0:=by
  intro h
  have h2:l=0:=by exact_mod_cast h
  omega
 have h1:(l:Rat) / (l:Rat)=1:=by grind
 have hq:zhZ ((l:Rat) / (l:Rat))=true:=by rw[h1];exact zq5.1
 have hz:x + -y*sqR ((l:Rat) / (l:Rat))=x - y:=by rw[h1,zq5.2];grind
 have hneg:(x - y).num<0:=by
  have:x - y<0:=by grind
  rw[Rat.lt_iff]at this
  simpa using this
 have hb:Bd 49 (x - y):=(bx.less bY).mono (by decide)
 have hz0:x - y≠0:=fun e=>by rw[e]at hneg;simp at hneg
 have e:zdz [(x,l)] (-y,l)=[(x - y,l)]:=by
  unfold zdz zd3
  rw[if_pos hq,if_neg (Nat.lt_irrefl _),hz]
 rw[e]
 refine⟨?_,fun c hc=>?_⟩
 ·rw[show zeK [(x - y,l)]=[(x - y,l)] by unfold zeK;simp[hz0],show zly [(x - y,l)]=[(x - y,l)]from rfl,sign_one (by omega) hl (Nat.lt_of_lt_of_le hb.2 (by decide)),if_neg (by omega)]
 ·rw[List.mem_singleton]at hc;subst hc;exact⟨hb.mono (by decide),hl,bl⟩
theorem zor(x y:Rat)(l:Nat)(h:x<y)(bx:Bd 20 x)(bY:Bd 20 y)(hl:zg6 l)(bl:l<10 ^ 16)(B1 B2:Nat)(v1 v2:Value)(w:World)(hE:Env w)(hP:zbU w)(h1:LfV w B1 v1 x l)(h2:LfV w B2 v2 y l) :
  Calls Tryz.prog 16 #[v1,v2] w fun e w'=>e=.returned (.tuple #[.int .i64 (-1),.int .i64 0])∧Q w w':=by
 have hnum:∀ {a b:Rat},a<b→(a - b).num<0:=fun {a b} h=>by
  have:a - b<0:=by grind
  rw[Rat.lt_iff]at this
  simpa using this
 rcases h1 with⟨rfl,rfl⟩|⟨hx,s1⟩
 ·rcases h2 with⟨rfl,rfl⟩|⟨hy,s2⟩
  ·exact absurd h (Rat.lt_irrefl)
  ·exact zhf y l (zfN hy (bY.mono (by decide)) hl bl) ((zcB _).1 h) bY bl B2 v2 w hE hP s2
 ·rcases h2 with⟨rfl,rfl⟩|⟨hy,s2⟩
  ·have hn:=hnum h
   rw[show x - 0=x by grind]at hn
   exact zhe x l (zfN hx (bx.mono (by decide)) hl bl) hn bx bl B1 v1 w hE hP s1
  ·obtain⟨hs,hcb⟩:=zo9 h hl.1 bx bY bl
   exact ziF x y l l (zfN hx (bx.mono (by decide)) hl bl) (zfN hy (bY.mono (by decide)) hl bl) bx bY bl bl (-1) hs hcb B1 B2 v1 v2 w hE hP s1 s2
theorem zrp{a:Int}{u:Nat}(hu:0<u):Rat.divInt a u*Rat.divInt a u+1=Rat.divInt (a*a+(u:Int)*u) ((u*u:Nat):Int):=by
 have h:(u:Rat)≠0:=by
  intro h
  have h2:u=0:=by exact_mod_cast h
  omega
 rw[Rat.divInt_eq_div,Rat.divInt_eq_div]
 push_cast
 grind
theorem zpe{d q a:Int}{u:Nat}(hu:0<u)(ha:0<a):((d:Rat) - (q:Rat)*Rat.divInt a u) / Rat.divInt (a*a+(u:Int)*u) ((u*u:Nat):Int)=Rat.divInt ((d*u - q*a)*u) (((a*a+(u:Int)*u).toNat:Nat):Int):=by
 have h:(u:Rat)≠0:=by
  intro h
  have h2:u=0:=by exact_mod_cast h
  omega
 have hs:(0:Int)<a*a+(u:Int)*u:=by
  have:0<a*a:=Int.mul_pos ha ha
  have:0≤(u:Int)*u:=Int.mul_nonneg (by omega) (by omega)
  omega
 rw[Int.toNat_of_nonneg (by omega)]
 have h3:((a*a+(u:Int)*u:Int):Rat)≠0:=by
  intro h
  have h2:a*a+(u:Int)*u=0:=by exact_mod_cast h
  omega
 rw[Rat.divInt_eq_div,Rat.divInt_eq_div,Rat.divInt_eq_div]
 push_cast at h3 ⊢
 grind
def zhR(R:List (List Sd))(m:Mb):Rat:=(zaz R m).pitch*(zaz R m).pitch+1
def zkL(R:List (List Sd))(m:Mb)(q:Int):Rat:=(((zaz R m).dep:Rat) - (q:Rat)*(zaz R m).pitch) / zhR R m
def zde(R:List (List Sd))(m:Mb)(q:Int):Rat:=zkL R m q*aOf (zhR R m)
def zgP(R:List (List Sd))(m:Mb):Nat:=leftOf (zhR R m)
structure LeftOk (R:List (List Sd)) (m:Mb) (s:Sd):Prop where
 is:zhR R m=Rat.divInt (s.rise*s.rise+s.run*s.run) (s.run*s.run)
 b:Bd 4 (zhR R m)
 pos:0<(zhR R m).num
 norm:zg6 (zgP R m)
 small:zgP R m<10 ^ 16
 rest:∀ q:Int,1≤q→q≤1000→Bd 8 (zkL R m q)
theorem SideOk.left{R:List (List Sd)}{m:Mb}{n:Nat}{s:Sd}{X Y:Str}(h:SideOk R m n s X Y):LeftOk R m s:=by
 have hr:=h.rg
 have h1:=hr.n h.ng
 have hbd:=h.bd
 obtain⟨a,ha⟩:=Int.eq_ofNat_of_zero_le (show 0≤s.rise by omega)
 obtain⟨u,hu⟩:=Int.eq_ofNat_of_zero_le (show 0≤s.run by omega)
 have hp:(zaz R m).pitch=Rat.divInt (a:Int) u:=by
  unfold zaz
  rw[h.face,ha,hu]
 have u0:0<u:=by omega
 have a0:0<a:=by omega
 have u1:u≤48:=by omega
 have a1:a≤48:=by omega
 have hauu:a*a≤48*48:=Nat.mul_le_mul a1 a1
 have huu:u*u≤48*48:=Nat.mul_le_mul u1 u1
 have huu0:0<u*u:=Nat.mul_pos u0 u0
 have hs:zhR R m=Rat.divInt ((a:Int)*a+(u:Int)*u) ((u*u:Nat):Int):=by
  unfold zhR
  rw[hp]
  exact zrp u0
 have e1:((a:Int)*a+(u:Int)*u)=((a*a+u*u:Nat):Int):=by push_cast;rfl
 have hb:Bd 4 (zhR R m):=by
  rw[hs,e1]
  exact zb5 huu0 (by rw[Int.natAbs_natCast];omega) (by omega)
 have hpos:0<(zhR R m).num:=by
  rw[hs,e1]
  exact zby (by omega) huu0
 have bl:=zpC hb hpos (by decide)
 rw[zfq]at bl
 refine⟨by rw[hs,ha,hu];push_cast;rfl,hb,hpos,zqA _ hpos,?_,fun q q1 q2=>?_⟩
 ·have:=bl.1
  rw[Rat.num_natCast,Int.natAbs_natCast]at this
  exact Nat.lt_of_lt_of_le this (by decide)
 ·unfold zkL
  rw[hp,hs,zpe u0 (by omega)]
  have hd1:=hbd.d1
  have hd2:=hbd.d2
  generalize (zaz R m).dep=d at *
  have k1:(d*u - q*a).natAbs≤96000:=by
   have i1:d*u≤1000*48:=Int.mul_le_mul hd2 (by omega) (by omega) (by decide)
   have i2:0≤d*u:=Int.mul_nonneg (by omega) (by omega)
   have i3:q*a≤1000*48:=Int.mul_le_mul q2 (by omega) (by omega) (by decide)
   have i4:0≤q*a:=Int.mul_nonneg (by omega) (by omega)
   omega
  refine zb5 ?_ ?_ ?_
  ·rw[e1,Int.toNat_natCast];omega
  ·rw[Int.natAbs_mul,Int.natAbs_natCast]
   exact Nat.lt_of_le_of_lt (Nat.mul_le_mul k1 u1) (by decide)
  ·rw[e1,Int.toNat_natCast]
   omega
theorem zqC{R:List (List Sd)}{m:Mb}{n:Nat}{s:Sd}{X Y:Str}(h:SideOk R m n s X Y)(q:Int)(q1:1≤q)(q2:q≤1000)(hb:zgc R m q=0)(ro:Ro)(w:World)(hE:Env w)(hv:zfk w ro.p.v R) :
  Calls Tryz.prog 8 #[.agg (roC ro).toArray,.agg (mbC m).toArray,.agg #[.string ⟨(ze ((zaz R m).over:Rat)).toArray⟩,.string ⟨(ze (q:Rat)).toArray⟩,.string ⟨(ze ((q:Rat)*(zaz R m).pitch)).toArray⟩]] w fun e w'=>∃ v,e=.returned (.tuple #[v,.int .i64 0])∧Q w w'∧LfV w' w.heap.size v (zde R m q) (zgP R m):=by
 obtain⟨h0,hle⟩:=zoL hb
 have hl:=h.left
 have hn:NotchOk (zaz R m) (q:Rat):=⟨zdO (by omega) (by decide),by exact_mod_cast (show 0<q by omega),hle⟩
 exact zi6 ro m (zaz R m) h.bd (q:Rat) hn (zhR R m) (zkL R m q) rfl (by have:=hl.pos;omega) rfl (fun W B v=>LfV W B v (zde R m q) (zgP R m)) (fun _ _ _ _ h hb=>h.low hb)
  (fun b t w hw hB=>zrE (zkL R m q) (zhR R m) (hl.rest q q1 q2) hl.b hl.pos b t w hw hB) w hE (h.ofC h0 ro w hv)
theorem zi4{R:List (List Sd)}{m:Mb}{s:Sd}(h:LeftOk R m s)(q:Int):zde R m q*zde R m q*(zgP R m:Rat)=zkL R m q*zkL R m q*zhR R m:=by
 have:=zrs (zhR R m) h.pos
 unfold zde zgP
 grind
theorem zos{R:List (List Sd)}{m:Mb}{s:Sd}(h:LeftOk R m s)(q:Int):zde R m q*zde R m q*(zgP R m:Rat)*zhR R m=(((zaz R m).dep:Rat) - (q:Rat)*(zaz R m).pitch)*(((zaz R m).dep:Rat) - (q:Rat)*(zaz R m).pitch):=by
 rw[zi4 h]
 have h0:zhR R m≠0:=fun e=>by have:=h.pos;rw[e]at this;simp at this
 unfold zkL
 grind
theorem zpz{R:List (List Sd)}{m:Mb}{s:Sd}(h:LeftOk R m s)(hx:RafBd (zaz R m)){q r:Int}(hqr:q<r):zde R m r<zde R m q:=by
 have h0:0<zhR R m:=(zcB _).2 h.pos
 have hp:0<(zaz R m).pitch:=(zcB _).2 hx.p0
 have ha:0<aOf (zhR R m):=(zcB _).2 (zr2 h.b h.pos)
 have hq:(q:Rat)<(r:Rat):=by exact_mod_cast hqr
 unfold zde zkL
 have h1:((zaz R m).dep:Rat) - (r:Rat)*(zaz R m).pitch<((zaz R m).dep:Rat) - (q:Rat)*(zaz R m).pitch:=by
  have:=Rat.mul_lt_mul_of_pos_right hq hp
  grind
 have h2:(((zaz R m).dep:Rat) - (r:Rat)*(zaz R m).pitch) / zhR R m<(((zaz R m).dep:Rat) - (q:Rat)*(zaz R m).pitch) / zhR R m:=by
  rw[Rat.div_def,Rat.div_def]
  exact Rat.mul_lt_mul_of_pos_right h1 (Rat.inv_pos.2 h0)
 exact Rat.mul_lt_mul_of_pos_right h2 ha
theorem zrC(w:World):(Builtin.max_ #[42,42] 42 #[.int .i64 0,.int .i64 0]).run Tryz.prog w=.ok (.int .i64 0) w:=by kernel_rfl
theorem zqB(ro:Ro)(R:List (List Sd))(hn:R.length≤8796093022208)(hln:∀ r∈R,r.length≤8796093022208)(m:Mb)(u:Int)(u0:0≤u)(u1:u<256)(v:Int)(v0:0≤v)(v1:v<256)(w:World)(hE:Env w)(hP:zbU w)(hv:zfk w ro.p.v R) :
  Calls Tryz.prog 3 #[.agg (roC ro).toArray,.agg (mbC m).toArray,.int .u8 u,.int .u8 v] w fun e w'=>e=.returned (.bool true)∧Q w w':=by
 have HAw:=LH (fun w hw=>zrZ w hw)
 have HV:=LH hv
 have HPL:Hid (∀ W,Q w W→zbU W):=LH (fun W hq=>hP.q hE hq)
 have HS:Hid (∀ W,Env W→Q w W→Calls Tryz.prog 5 #[.agg (roC ro).toArray,.agg (mbC m).toArray] W fun e w'=>∃ (s:Sd) (X Y:Str) (ok:Bool),e=.returned (.tuple #[.agg (sdC s).toArray,.string ⟨X.toArray⟩,.string ⟨Y.toArray⟩,.bool ok])∧Q W w'∧(ok=true→∃ n,SideOk R m n s X Y)):=LH (fun W hW hq=>zqD ro R hn hln m W hW (hv.keep hq))
 have HB:Hid (∀ q,1≤q→q≤1000→∀ n s X Y,SideOk R m n s X Y→∀ W,Env W→Q w W→Calls Tryz.prog 7 #[.agg (roC ro).toArray,.agg (mbC m).toArray,.int .i64 q] W fun e w'=>∃ x y z:Str,e=.returned (.tuple #[.agg #[.string ⟨x.toArray⟩,.string ⟨y.toArray⟩,.string ⟨z.toArray⟩],.int .i64 (zgc R m q)])∧Q W w' ∧
   (zgc R m q=0→x=ze ((zaz R m).over:Rat)∧y=ze (q:Rat)∧z=ze ((q:Rat)*(zaz R m).pitch))):=LH (fun q q1 q2 n s X Y h W hW hq=>(zqZ h q q1 q2 ro W hW (hv.keep hq)).mono (by
  rintro e w'⟨he,hq⟩
  unfold zrV at he
  split at he
  ·exact⟨_,_,_,he,hq,fun _=>⟨rfl,rfl,rfl⟩⟩
  ·next hz=>exact⟨[],[],[],he,hq,fun h=>absurd h hz⟩))
 have HL:Hid (∀ q,1≤q→q≤1000→zgc R m q=0→∀ n s X Y,SideOk R m n s X Y→∀ W,Env W→Q w W→Calls Tryz.prog 8 #[.agg (roC ro).toArray,.agg (mbC m).toArray,.agg #[.string ⟨(ze ((zaz R m).over:Rat)).toArray⟩,.string ⟨(ze (q:Rat)).toArray⟩,.string ⟨(ze ((q:Rat)*(zaz R m).pitch)).toArray⟩]] W fun e w'=>∃ v,e=.returned (.tuple #[v,.int .i64 0])∧Q W w'∧LfV w' W.heap.size v (zde R m q) (zgP R m)):=LH (fun q q1 q2 hb n s X Y h W hW hq=>zqC h q q1 q2 hb ro W hW (hv.keep hq))
 clear hn hln hv hP
 obtain⟨⟨a0,n0,c0⟩,⟨a1,n1,c1⟩,⟨a2,n2,c2⟩,⟨a3,n3,c3⟩⟩:=ro
 have e:mbC m=[.int .i64 m.kind,.int .i64 m.face,.int .i64 m.other,.string ⟨m.fx.toArray⟩,.string ⟨m.fy.toArray⟩,.string ⟨m.fz.toArray⟩,.string ⟨m.tx.toArray⟩,.string ⟨m.ty.toArray⟩,.string ⟨m.tz.toArray⟩,.int .i64 m.wid,.int .i64 m.dep]:=rfl
 obtain⟨ki,hki⟩:∃ x,x=m.kind:=⟨_,rfl⟩
 obtain⟨fa,hfa⟩:∃ x,x=m.face:=⟨_,rfl⟩
 obtain⟨ot,hot⟩:∃ x,x=m.other:=⟨_,rfl⟩
 obtain⟨fx,hfx⟩:∃ x,x=m.fx:=⟨_,rfl⟩
 obtain⟨fy,hfy⟩:∃ x,x=m.fy:=⟨_,rfl⟩
 obtain⟨fz,hfz⟩:∃ x,x=m.fz:=⟨_,rfl⟩
 obtain⟨tx,htx⟩:∃ x,x=m.tx:=⟨_,rfl⟩
 obtain⟨ty,hty⟩:∃ x,x=m.ty:=⟨_,rfl⟩
 obtain⟨tz,htz⟩:∃ x,x=m.tz:=⟨_,rfl⟩
 obtain⟨wi,hwi⟩:∃ x,x=m.wid:=⟨_,rfl⟩
 obtain⟨de,hde⟩:∃ x,x=m.dep:=⟨_,rfl⟩
 have HDE:=LH hde
 rw[← hki,← hfa,← hot,← hfx,← hfy,← hfz,← htx,← hty,← htz,← hwi,← hde]at e
 rw[e]at HS HB HL ⊢
 unfold roC Sl3.v at *
 simp only at HS HB HL HV ⊢
 clear e hki hfa hot hfx hfy hfz htx hty htz hwi hde
 have BR:=(Blk.new w [.slice a0 n0 c0,.slice a1 n1 c1,.slice a2 n2 c2,.slice a3 n3 c3] 29).alloc (.cells #[.int .i64 ki,.int .i64 fa,.int .i64 ot,.string ⟨fx.toArray⟩,.string ⟨fy.toArray⟩,.string ⟨fz.toArray⟩,.string ⟨tx.toArray⟩,.string ⟨ty.toArray⟩,.string ⟨tz.toArray⟩,.int .i64 wi,.int .i64 de] 34)
 have BM0:=Blk.new1 w (.cells #[.slice a0 n0 c0,.slice a1 n1 c1,.slice a2 n2 c2,.slice a3 n3 c3] 29) [.int .i64 ki,.int .i64 fa,.int .i64 ot,.string ⟨fx.toArray⟩,.string ⟨fy.toArray⟩,.string ⟨fz.toArray⟩,.string ⟨tx.toArray⟩,.string ⟨ty.toArray⟩,.string ⟨tz.toArray⟩,.int .i64 wi,.int .i64 de] 34
 obtain⟨W0,hW0⟩:∃ W0,(w.alloc (.cells #[.slice a0 n0 c0,.slice a1 n1 c1,.slice a2 n2 c2,.slice a3 n3 c3] 29)).alloc (.cells #[.int .i64 ki,.int .i64 fa,.int .i64 ot,.string ⟨fx.toArray⟩,.string ⟨fy.toArray⟩,.string ⟨fz.toArray⟩,.string ⟨tx.toArray⟩,.string ⟨ty.toArray⟩,.string ⟨tz.toArray⟩,.int .i64 wi,.int .i64 de] 34)=W0:=⟨_,rfl⟩
 have hq0:Q w W0:=by rw[← hW0];exact bt
 have hEw:=hE.ofQ hq0
 rw[hW0]at BR
 have BM:Blk W0 (w.heap.size+1) [.int .i64 ki,.int .i64 fa,.int .i64 ot,.string ⟨fx.toArray⟩,.string ⟨fy.toArray⟩,.string ⟨fz.toArray⟩,.string ⟨tx.toArray⟩,.string ⟨ty.toArray⟩,.string ⟨tz.toArray⟩,.int .i64 wi,.int .i64 de] 34:=by rw[← hW0];exact BM0
 clear hE BM0
 have hE:=hEw
 clear hEw
 have hQ0:=Q.refl W0
 replace r0:=BR.cell 0
 replace r1:=BR.cell 1
 replace r2:=BR.cell 2
 replace r3:=BR.cell 3
 simp only[zs4,zs5]at r0 r1 r2 r3
 replace lBR:=BR.lt
 replace m0:=BM.cell 0
 replace m1:=BM.cell 1
 replace m2:=BM.cell 2
 replace m3:=BM.cell 3
 replace m4:=BM.cell 4
 replace m5:=BM.cell 5
 replace m6:=BM.cell 6
 replace m7:=BM.cell 7
 replace m8:=BM.cell 8
 replace m9:=BM.cell 9
 replace m10:=BM.cell 10
 simp only[zs4,zs5]at m0 m1 m2 m3 m4 m5 m6 m7 m8 m9 m10
 replace lBM:=BM.lt
 go_enter Tryz.func3,Tryz.ntmps3
 go_wp2_with fail
 clear hW0
 go_wp2_with fail
 refine(HS.out _ (hE.ofQ bt) hq0).mono ?_
 rintro e Y1⟨s,X,Y,ok,rfl,hq1,hok⟩
 have hs1:Q W0 Y1:=Q.trans bt hq1
 have hQ1:Q W0 Y1:=Q.trans hQ0 hs1
 replace BR:=BR.keep hs1 BR.lt
 replace r0:=BR.cell 0
 replace r1:=BR.cell 1
 replace r2:=BR.cell 2
 replace r3:=BR.cell 3
 simp only[zs4,zs5]at r0 r1 r2 r3
 replace lBR:=BR.lt
 replace BM:=BM.keep hs1 BM.lt
 replace m0:=BM.cell 0
 replace m1:=BM.cell 1
 replace m2:=BM.cell 2
 replace m3:=BM.cell 3
 replace m4:=BM.cell 4
 replace m5:=BM.cell 5
 replace m6:=BM.cell 6
 replace m7:=BM.cell 7
 replace m8:=BM.cell 8
 replace m9:=BM.cell 9
 replace m10:=BM.cell 10
 simp only[zs4,zs5]at m0 m1 m2 m3 m4 m5 m6 m7 m8 m9 m10
 replace lBM:=BM.lt
 clear HS
 have HOK:=LH hok
 clear hok
 have BS:=Blk.new Y1 [.int .i64 0,.int .i64 0,.int .i64 0,.int .i64 0,.bool false,.int .i64 0,.int .i64 0] 36
 have hqS:Q Y1 ((Y1.alloc (.cells ([.int .i64 0,.int .i64 0,.int .i64 0,.int .i64 0,.bool false,.int .i64 0,.int .i64 0]:List Value).toArray 36)).setRow Y1.heap.size (sdC s).toArray):=below_setRow ((Below.refl _ Y1).alloc (Nat.le_refl _) _) (Nat.le_refl _) _
 have BSs:Blk ((Y1.alloc (.cells ([.int .i64 0,.int .i64 0,.int .i64 0,.int .i64 0,.bool false,.int .i64 0,.int .i64 0]:List Value).toArray 36)).setRow Y1.heap.size (sdC s).toArray) Y1.heap.size (sdC s) 36:=setRow_heap _ _ _ _ _ _ BS
 have hs7:∀ v∈sdC s,v.oneCell'=true:=fun v hv=>zo7 (r:=[s]) v (by unfold rowOf;simpa using hv)
 obtain⟨W2,hW2⟩:∃ W2,(Y1.alloc (.cells ([.int .i64 0,.int .i64 0,.int .i64 0,.int .i64 0,.bool false,.int .i64 0,.int .i64 0]:List Value).toArray 36)).setRow Y1.heap.size (sdC s).toArray=W2:=⟨_,rfl⟩
 rw[hW2]at hqS BSs
 have hw2:Q w W2:=Q.trans hq0 (Q.trans hQ1 hqS)
 have hE2:=hE.ofQ (Q.trans hQ1 hqS)
 replace BR:=BR.keep hqS BR.lt
 replace BM:=BM.keep hqS BM.lt
 clear hE
 have hE:=hE2
 clear hE2 r0 r1 r2 r3 m0 m1 m2 m3 m4 m5 m6 m7 m8 m9 m10 lBR lBM
 have hQ0:=Q.refl W2
 replace r0:=BR.cell 0
 replace r1:=BR.cell 1
 replace r2:=BR.cell 2
 replace r3:=BR.cell 3
 simp only[zs4,zs5]at r0 r1 r2 r3
 replace lBR:=BR.lt
 replace m0:=BM.cell 0
 replace m1:=BM.cell 1
 replace m2:=BM.cell 2
 replace m3:=BM.cell 3
 replace m4:=BM.cell 4
 replace m5:=BM.cell 5
 replace m6:=BM.cell 6
 replace m7:=BM.cell 7
 replace m8:=BM.cell 8
 replace m9:=BM.cell 9
 replace m10:=BM.cell 10
 simp only[zs4,zs5]at m0 m1 m2 m3 m4 m5 m6 m7 m8 m9 m10
 replace lBM:=BM.lt
 cases ok
 case false =>
  clear HOK HB HL HV HPL
  go_wp2_with (refine zaF rfl 36 _ _ rfl Y1.heap.size BS (sdC s) rfl rfl rfl (by kernel_rfl) hs7 ?_;rw[hW2])
  clear hW2
  refine(HAw.out _ hE).mono ?_
  rintro e we⟨rfl,hqe⟩
  have hQe:=Q.trans hw2 hqe
  go_wp2
  go_ret
  exact⟨rfl,hQe⟩
 obtain⟨n,ho⟩:=HOK.out rfl
 have hrg:=ho.rg
 have hrn:=hrg.n ho.ng
 have hlo:=ho.left
 have hbd:=ho.bd
 have HB1:=LH (HB.out (1+u) (by omega) (by omega) n s X Y ho)
 have HB2:=LH (HB.out (2+u+v) (by omega) (by omega) n s X Y ho)
 have HL1:=LH (fun hb=>HL.out (1+u) (by omega) (by omega) hb n s X Y ho)
 have HL2:=LH (fun hb=>HL.out (2+u+v) (by omega) (by omega) hb n s X Y ho)
 have wc:=Go.IntWalk.i64_in u (by omega)
 have wa:=Go.IntWalk.i64_in (1+u) (by omega)
 have wv:=Go.IntWalk.i64_in v (by omega)
 have wb:=Go.IntWalk.i64_in (2+u) (by omega)
 have wd:=Go.IntWalk.i64_in (2+u+v) (by omega)
 clear HOK HB HL
 go_wp2_with (refine zaF rfl 36 _ _ rfl Y1.heap.size BS (sdC s) rfl rfl rfl (by kernel_rfl) hs7 ?_;rw[hW2])
 clear hW2
 refine(HB1.out _ hE hw2).mono ?_
 rintro e V1⟨x,y,z,rfl,hv1,hxyz⟩
 have N:=Blk.new V1 [.string ⟨x.toArray⟩,.string ⟨y.toArray⟩,.string ⟨z.toArray⟩] 41
 have hqn:Q V1 (V1.alloc (.cells ([.string ⟨x.toArray⟩,.string ⟨y.toArray⟩,.string ⟨z.toArray⟩]:List Value).toArray 41)):=(Below.refl _ V1).alloc (Nat.le_refl _) _
 obtain⟨W3,hW3⟩:∃ W3,V1.alloc (.cells #[.string ⟨x.toArray⟩,.string ⟨y.toArray⟩,.string ⟨z.toArray⟩] 41)=W3:=⟨_,rfl⟩
 have hW3':V1.alloc (.cells ([.string ⟨x.toArray⟩,.string ⟨y.toArray⟩,.string ⟨z.toArray⟩]:List Value).toArray 41)=W3:=hW3
 rw[hW3']at N hqn
 clear hW3'
 have hq23:=Q.trans hv1 hqn
 have hwN:=Q.trans hw2 hq23
 have hEN:=hE.ofQ hq23
 have S:=BSs.keep hq23 BSs.lt
 replace BR:=BR.keep hq23 BR.lt
 replace BM:=BM.keep hq23 BM.lt
 clear r0 r1 r2 r3 m0 m1 m2 m3 m4 m5 m6 m7 m8 m9 m10 lBR lBM HB1 hE hv1 hqn BSs BS hqS
 have hE:=hEN
 by_cases hz:zgc R m (1+u)=0
 case neg =>
  have hzb:(zgc R m (1+u) != 0)=true:=by rw[bne_iff_ne];exact hz
  generalize zgc R m (1+u)=E at *
  clear hbd hlo ho hrn hrg HB2 HL1 HL2 hxyz BR BM S
  go_wp2_with fail
  clear hW3
  refine(HAw.out _ hE).mono ?_
  rintro e we⟨rfl,hqe⟩
  have hQe:=Q.trans hwN hqe
  go_wp2
  go_ret
  exact⟨rfl,hQe⟩
 obtain⟨rfl,rfl,rfl⟩:=hxyz hz
 have HL1a:=LH (HL1.out hz)
 rw[hz]
 clear HL1 hxyz
 have hx0:=hbd.d1
 have hx1:=hbd.d2
 have hdp:(zaz R m).dep=de:=HDE.out.symm
 have bq:Bd 3 ((1+u:Int):Rat):=zdO (by omega) (by decide)
 have bh:=bq.mul hbd.p
 have bdp:Bd 4 ((zaz R m).dep:Rat):=zdO (by omega) (by decide)
 have bd:=bdp.less bh
 have br1:=hlo.rest (1+u) (by omega) (by omega)
 have bc1:Bd 16 (zde R m (1+u)):=br1.mul (zmw hlo.b hlo.pos)
 have bc2:Bd 16 (zde R m (2+u+v)):=(hlo.rest (2+u+v) (by omega) (by omega)).mul (zmw hlo.b hlo.pos)
 have bsq:Bd 20 (zde R m (1+u)*zde R m (1+u)*(zgP R m:Rat)):=by rw[zi4 hlo];exact(br1.mul br1).mul hlo.b
 have hk0:zhR R m≠0:=fun e=>by have:=hlo.pos;rw[e]at this;simp at this
 have hval:=zos hlo (1+u)
 have HM:=LH (fun B v w hw hv=>zsk (zde R m (1+u)) (zgP R m) (bc1.mono (by decide)) hlo.norm hlo.small B v w hw hv)
 have HSc:=LH (fun B v w hw hv=>zqz (zde R m (1+u)*zde R m (1+u)*(zgP R m:Rat)) (zhR R m) (bsq.mono (by decide)) hlo.b hk0 B v w hw hv)
 have HVl:=LH (fun B v w hw hv=>zqy (zde R m (1+u)*zde R m (1+u)*(zgP R m:Rat)*zhR R m) ((bsq.mul hlo.b).mono (by decide)) B v w hw hv)
 have HCm:=LH (fun B1 B2 v1 v2 w hw hp h1 h2=>zor (zde R m (2+u+v)) (zde R m (1+u)) (zgP R m) (zpz hlo hbd (by omega)) (bc2.mono (by decide)) (bc1.mono (by decide)) hlo.norm hlo.small B1 B2 v1 v2 w hw hp h1 h2)
 have HNu:=LH (fun w hw=>zou (zaz R m).dep (by omega) w hw)
 have HSu:=LH (fun w hw=>zco ((zaz R m).dep:Rat) (((1+u:Int):Rat)*(zaz R m).pitch) bdp bh (by decide) w hw)
 have HDD:=LH (fun w hw=>zai (((zaz R m).dep:Rat) - ((1+u:Int):Rat)*(zaz R m).pitch) (((zaz R m).dep:Rat) - ((1+u:Int):Rat)*(zaz R m).pitch) bd bd (by decide) w hw)
 rw[← hval]at HDD
 have hrr:s.rise*s.rise≤48*48:=Int.mul_le_mul hrn.2.1 hrn.2.1 (by omega) (by decide)
 have huu:s.run*s.run≤48*48:=Int.mul_le_mul hrn.2.2.2 hrn.2.2.2 (by omega) (by decide)
 have hrr0:0<s.rise*s.rise:=Int.mul_pos (by omega) (by omega)
 have huu0:0<s.run*s.run:=Int.mul_pos (by omega) (by omega)
 have wr1:=Go.IntWalk.i64_in (s.rise*s.rise) (by omega)
 have wr2:=Go.IntWalk.i64_in (s.run*s.run) (by omega)
 have wr3:=Go.IntWalk.i64_in (s.rise*s.rise+s.run*s.run) (by omega)
 have HOf:Hid (∀ w,Env w→Calls Tryz.prog 10 #[.int .i64 (s.rise*s.rise+s.run*s.run),.int .i64 (s.run*s.run)] w fun e w'=>e=.returned (.tuple #[.string ⟨(ze (zhR R m)).toArray⟩,.int .i64 0])∧Q w w'):=LH (fun w hw=>by
  rw[hlo.is]
  obtain⟨k,hk⟩:=Int.eq_ofNat_of_zero_le (show 0≤s.run*s.run by omega)
  rw[hk]
  exact zal (s.rise*s.rise+(k:Int)) k (by omega) (by omega) (by omega) w hw)
 rw[hdp]at HNu HSu HDD
 clear hval hk0 bsq bc1 bc2 br1 bd bdp bh bq hbd hlo ho hrn hrg hrr huu hrr0 huu0 hdp HDE hx0 hx1
 generalize zde R m (1+u)=C1 at *
 generalize zde R m (2+u+v)=C2 at *
 generalize zgP R m=LL at *
 generalize ze ((((1+u:Int):Rat))*(zaz R m).pitch)=HE1 at *
 generalize ze (((1+u:Int):Rat))=SE1 at *
 generalize ze ((2+u+v:Int):Rat)=SE2 at *
 generalize ze (((2+u+v:Int):Rat)*(zaz R m).pitch)=HE2 at *
 generalize ze ((zaz R m).over:Rat)=OV at *
 generalize C1*C1*(LL:Rat)*zhR R m=K3 at *
 generalize C1*C1*(LL:Rat)=K2 at *
 generalize ze K3=VV at *
 generalize ze (zhR R m)=SR at *
 generalize ze ((de:Rat) - ((1+u:Int):Rat)*(zaz R m).pitch)=DF at *
 generalize ze (de:Rat)=DS at *
 have s2:W3.cell? ⟨Y1.heap.size,2,none⟩=some (.int .i64 s.rise):=S.cell 2
 have s3:W3.cell? ⟨Y1.heap.size,3,none⟩=some (.int .i64 s.run):=S.cell 3
 clear S hEN
 have hQ0:=Q.refl W3
 replace r0:=BR.cell 0
 replace r1:=BR.cell 1
 replace r2:=BR.cell 2
 replace r3:=BR.cell 3
 simp only[zs4,zs5]at r0 r1 r2 r3
 replace lBR:=BR.lt
 replace m0:=BM.cell 0
 replace m1:=BM.cell 1
 replace m2:=BM.cell 2
 replace m3:=BM.cell 3
 replace m4:=BM.cell 4
 replace m5:=BM.cell 5
 replace m6:=BM.cell 6
 replace m7:=BM.cell 7
 replace m8:=BM.cell 8
 replace m9:=BM.cell 9
 replace m10:=BM.cell 10
 simp only[zs4,zs5]at m0 m1 m2 m3 m4 m5 m6 m7 m8 m9 m10
 replace lBM:=BM.lt
 replace t0:=N.cell 0
 replace t1:=N.cell 1
 replace t2:=N.cell 2
 simp only[zs4,zs5]at t0 t1 t2
 replace lN:=N.lt
 go_wp2_with fail
 clear hW3
 refine(HL1a.out _ hE hwN).mono ?_
 rintro e U1⟨lv,rfl,hu1,hlf⟩
 replace BR:=BR.keep hu1 BR.lt
 replace BM:=BM.keep hu1 BM.lt
 replace N:=N.keep hu1 N.lt
 replace s2:=zfj s2 hu1
 replace s3:=zfj s3 hu1
 have hwU:=Q.trans hwN hu1
 have hEU:=hE.ofQ hu1
 clear hE HL1a r0 r1 r2 r3 m0 m1 m2 m3 m4 m5 m6 m7 m8 m9 m10 lBR lBM t0 t1 t2 lN
 have hE:=hEU
 clear hEU
 have hQ0:=Q.refl U1
 replace r0:=BR.cell 0
 replace r1:=BR.cell 1
 replace r2:=BR.cell 2
 replace r3:=BR.cell 3
 simp only[zs4,zs5]at r0 r1 r2 r3
 replace lBR:=BR.lt
 replace m0:=BM.cell 0
 replace m1:=BM.cell 1
 replace m2:=BM.cell 2
 replace m3:=BM.cell 3
 replace m4:=BM.cell 4
 replace m5:=BM.cell 5
 replace m6:=BM.cell 6
 replace m7:=BM.cell 7
 replace m8:=BM.cell 8
 replace m9:=BM.cell 9
 replace m10:=BM.cell 10
 simp only[zs4,zs5]at m0 m1 m2 m3 m4 m5 m6 m7 m8 m9 m10
 replace lBM:=BM.lt
 replace t0:=N.cell 0
 replace t1:=N.cell 1
 replace t2:=N.cell 2
 simp only[zs4,zs5]at t0 t1 t2
 replace lN:=N.lt
 go_wp2_with fail
 refine(HM.out _ _ _ hE hlf).mono ?_
 rintro e V1⟨mv,rfl,hq1,hmv⟩
 have hs1:Q U1 V1:=Q.trans bt hq1
 have hQ1:Q U1 V1:=Q.trans hQ0 hs1
 replace s2:=zfj s2 hs1
 replace s3:=zfj s3 hs1
 replace hlf:=LfV.keep hlf hs1
 replace BR:=BR.keep hs1 BR.lt
 replace r0:=BR.cell 0
 replace r1:=BR.cell 1
 replace r2:=BR.cell 2
 replace r3:=BR.cell 3
 simp only[zs4,zs5]at r0 r1 r2 r3
 replace lBR:=BR.lt
 replace BM:=BM.keep hs1 BM.lt
 replace m0:=BM.cell 0
 replace m1:=BM.cell 1
 replace m2:=BM.cell 2
 replace m3:=BM.cell 3
 replace m4:=BM.cell 4
 replace m5:=BM.cell 5
 replace m6:=BM.cell 6
 replace m7:=BM.cell 7
 replace m8:=BM.cell 8
 replace m9:=BM.cell 9
 replace m10:=BM.cell 10
 simp only[zs4,zs5]at m0 m1 m2 m3 m4 m5 m6 m7 m8 m9 m10
 replace lBM:=BM.lt
 replace N:=N.keep hs1 N.lt
 replace t0:=N.cell 0
 replace t1:=N.cell 1
 replace t2:=N.cell 2
 simp only[zs4,zs5]at t0 t1 t2
 replace lN:=N.lt
 go_wp2_with fail
 refine(HOf.out _ (hE.ofQ bt)).mono ?_
 rintro e V2⟨rfl,hq2⟩
 have hs2:Q V1 V2:=Q.trans bt hq2
 have hQ2:Q U1 V2:=Q.trans hQ1 hs2
 replace s2:=zfj s2 hs2
 replace s3:=zfj s3 hs2
 replace hlf:=LfV.keep hlf hs2
 replace hmv:=LfV.keep hmv hs2
 replace BR:=BR.keep hs2 BR.lt
 replace r0:=BR.cell 0
 replace r1:=BR.cell 1
 replace r2:=BR.cell 2
 replace r3:=BR.cell 3
 simp only[zs4,zs5]at r0 r1 r2 r3
 replace lBR:=BR.lt
 replace BM:=BM.keep hs2 BM.lt
 replace m0:=BM.cell 0
 replace m1:=BM.cell 1
 replace m2:=BM.cell 2
 replace m3:=BM.cell 3
 replace m4:=BM.cell 4
 replace m5:=BM.cell 5
 replace m6:=BM.cell 6
 replace m7:=BM.cell 7
 replace m8:=BM.cell 8
 replace m9:=BM.cell 9
 replace m10:=BM.cell 10
 simp only[zs4,zs5]at m0 m1 m2 m3 m4 m5 m6 m7 m8 m9 m10
 replace lBM:=BM.lt
 replace N:=N.keep hs2 N.lt
 replace t0:=N.cell 0
 replace t1:=N.cell 1
 replace t2:=N.cell 2
 simp only[zs4,zs5]at t0 t1 t2
 replace lN:=N.lt
 go_wp2_with fail
 refine(HSc.out _ _ _ (hE.ofQ bt) hmv).mono ?_
 rintro e V3⟨sv,rfl,hq3,hsv⟩
 have hs3:Q V2 V3:=Q.trans bt hq3
 have hQ3:Q U1 V3:=Q.trans hQ2 hs3
 replace s2:=zfj s2 hs3
 replace s3:=zfj s3 hs3
 replace hlf:=LfV.keep hlf hs3
 replace hmv:=LfV.keep hmv hs3
 replace BR:=BR.keep hs3 BR.lt
 replace r0:=BR.cell 0
 replace r1:=BR.cell 1
 replace r2:=BR.cell 2
 replace r3:=BR.cell 3
 simp only[zs4,zs5]at r0 r1 r2 r3
 replace lBR:=BR.lt
 replace BM:=BM.keep hs3 BM.lt
 replace m0:=BM.cell 0
 replace m1:=BM.cell 1
 replace m2:=BM.cell 2
 replace m3:=BM.cell 3
 replace m4:=BM.cell 4
 replace m5:=BM.cell 5
 replace m6:=BM.cell 6
 replace m7:=BM.cell 7
 replace m8:=BM.cell 8
 replace m9:=BM.cell 9
 replace m10:=BM.cell 10
 simp only[zs4,zs5]at m0 m1 m2 m3 m4 m5 m6 m7 m8 m9 m10
 replace lBM:=BM.lt
 replace N:=N.keep hs3 N.lt
 replace t0:=N.cell 0
 replace t1:=N.cell 1
 replace t2:=N.cell 2
 simp only[zs4,zs5]at t0 t1 t2
 replace lN:=N.lt
 go_wp2_with fail
 refine(HVl.out _ _ _ (hE.ofQ bt) hsv).mono ?_
 rintro e V4⟨rfl,hq4⟩
 have hs4:Q V3 V4:=Q.trans bt hq4
 have hQ4:Q U1 V4:=Q.trans hQ3 hs4
 replace s2:=zfj s2 hs4
 replace s3:=zfj s3 hs4
 replace hlf:=LfV.keep hlf hs4
 replace hmv:=LfV.keep hmv hs4
 replace hsv:=LfV.keep hsv hs4
 replace BR:=BR.keep hs4 BR.lt
 replace r0:=BR.cell 0
 replace r1:=BR.cell 1
 replace r2:=BR.cell 2
 replace r3:=BR.cell 3
 simp only[zs4,zs5]at r0 r1 r2 r3
 replace lBR:=BR.lt
 replace BM:=BM.keep hs4 BM.lt
 replace m0:=BM.cell 0
 replace m1:=BM.cell 1
 replace m2:=BM.cell 2
 replace m3:=BM.cell 3
 replace m4:=BM.cell 4
 replace m5:=BM.cell 5
 replace m6:=BM.cell 6
 replace m7:=BM.cell 7
 replace m8:=BM.cell 8
 replace m9:=BM.cell 9
 replace m10:=BM.cell 10
 simp only[zs4,zs5]at m0 m1 m2 m3 m4 m5 m6 m7 m8 m9 m10
 replace lBM:=BM.lt
 replace N:=N.keep hs4 N.lt
 replace t0:=N.cell 0
 replace t1:=N.cell 1
 replace t2:=N.cell 2
 simp only[zs4,zs5]at t0 t1 t2
 replace lN:=N.lt
 clear HM HOf HSc HVl
 have hEd:Env V4.drew:=hE.ofQ (Q.trans hQ4 (Below.drew (Q.refl V4)))
 go_wp2_with fail
 refine zm 11 rfl (by kernel_rfl) rfl ?_
 refine svp 0 ?_
 refine svq 1 rfl (by intro w' hq;have hc0:=za hq m10;go_simp;try with_reducible rfl) ?_
 refine zf (i:=2) (v:=_) rfl rfl (by kernel_rfl) (by kernel_rfl) (fun _ _ _ h=>h) (by rfl) ?_ (fun w' hq=>HNu.out w' (hEd.ofQ hq)) ?_
 ·(intro w' hq;go_simp;try with_reducible rfl)
 simp only[Act.put,zs1,zs2,zs3]
 refine svp 3 ?_
 refine svq 4 rfl (by intro w' hq;have hc0:=za hq t2;go_simp;try with_reducible rfl) ?_
 refine zf (i:=5) (v:=_) rfl rfl (by kernel_rfl) (by kernel_rfl) (fun _ _ _ h=>h) (by rfl) ?_ (fun w' hq=>HSu.out w' (hEd.ofQ hq)) ?_
 ·(intro w' hq;go_simp;try with_reducible rfl)
 simp only[Act.put,zs1,zs2,zs3]
 refine svp 6 ?_
 refine svp 7 ?_
 refine svp 8 ?_
 refine svp 9 ?_
 refine svp 10 ?_
 refine zh (by kernel_rfl) (fun w3 hq3=>?_)
 simp only[List.drop_succ_cons,List.drop_nil]
 have hqa:Q V4 w3:=Q.trans (Below.drew (Q.refl V4)) hq3
 have hQa:Q U1 w3:=Q.trans hQ4 hqa
 replace BR:=BR.keep hqa BR.lt
 replace BM:=BM.keep hqa BM.lt
 replace hlf:=LfV.keep hlf hqa
 have hwT:=Q.trans hwU hQa
 have hET:=hE.ofQ hQa
 clear hE hq3 HNu HSu hEd hmv hsv s2 s3 N r0 r1 r2 r3 m0 m1 m2 m3 m4 m5 m6 m7 m8 m9 m10 lBR lBM t0 t1 t2 lN
 have hE:=hET
 clear hET
 have hQ0:=Q.refl w3
 replace r0:=BR.cell 0
 replace r1:=BR.cell 1
 replace r2:=BR.cell 2
 replace r3:=BR.cell 3
 simp only[zs4,zs5]at r0 r1 r2 r3
 replace lBR:=BR.lt
 replace m0:=BM.cell 0
 replace m1:=BM.cell 1
 replace m2:=BM.cell 2
 replace m3:=BM.cell 3
 replace m4:=BM.cell 4
 replace m5:=BM.cell 5
 replace m6:=BM.cell 6
 replace m7:=BM.cell 7
 replace m8:=BM.cell 8
 replace m9:=BM.cell 9
 replace m10:=BM.cell 10
 simp only[zs4,zs5]at m0 m1 m2 m3 m4 m5 m6 m7 m8 m9 m10
 replace lBM:=BM.lt
 have hmax4:=zqt
 have hmax2:=zrC
 go_wp2_with fail
 refine(HDD.out _ (hE.ofQ bt)).mono ?_
 rintro e T1⟨rfl,hq1⟩
 have hs1:Q w3 T1:=Q.trans bt hq1
 have hQ1:Q w3 T1:=Q.trans hQ0 hs1
 replace hlf:=LfV.keep hlf hs1
 replace BR:=BR.keep hs1 BR.lt
 replace r0:=BR.cell 0
 replace r1:=BR.cell 1
 replace r2:=BR.cell 2
 replace r3:=BR.cell 3
 simp only[zs4,zs5]at r0 r1 r2 r3
 replace lBR:=BR.lt
 replace BM:=BM.keep hs1 BM.lt
 replace m0:=BM.cell 0
 replace m1:=BM.cell 1
 replace m2:=BM.cell 2
 replace m3:=BM.cell 3
 replace m4:=BM.cell 4
 replace m5:=BM.cell 5
 replace m6:=BM.cell 6
 replace m7:=BM.cell 7
 replace m8:=BM.cell 8
 replace m9:=BM.cell 9
 replace m10:=BM.cell 10
 simp only[zs4,zs5]at m0 m1 m2 m3 m4 m5 m6 m7 m8 m9 m10
 replace lBM:=BM.lt
 go_wp2_with fail
 refine(HB2.out _ (hE.ofQ bt) (Q.trans hwT hQ1)).mono ?_
 rintro e T2⟨x2,y2,z2,rfl,hq2,hxyz2⟩
 have hs2:Q T1 T2:=Q.trans bt hq2
 have hQ2:Q w3 T2:=Q.trans hQ1 hs2
 replace hlf:=LfV.keep hlf hs2
 replace BR:=BR.keep hs2 BR.lt
 replace r0:=BR.cell 0
 replace r1:=BR.cell 1
 replace r2:=BR.cell 2
 replace r3:=BR.cell 3
 simp only[zs4,zs5]at r0 r1 r2 r3
 replace lBR:=BR.lt
 replace BM:=BM.keep hs2 BM.lt
 replace m0:=BM.cell 0
 replace m1:=BM.cell 1
 replace m2:=BM.cell 2
 replace m3:=BM.cell 3
 replace m4:=BM.cell 4
 replace m5:=BM.cell 5
 replace m6:=BM.cell 6
 replace m7:=BM.cell 7
 replace m8:=BM.cell 8
 replace m9:=BM.cell 9
 replace m10:=BM.cell 10
 simp only[zs4,zs5]at m0 m1 m2 m3 m4 m5 m6 m7 m8 m9 m10
 replace lBM:=BM.lt
 clear HDD HB2
 have N:=Blk.new T2 [.string ⟨x2.toArray⟩,.string ⟨y2.toArray⟩,.string ⟨z2.toArray⟩] 41
 have hqn:Q T2 (T2.alloc (.cells ([.string ⟨x2.toArray⟩,.string ⟨y2.toArray⟩,.string ⟨z2.toArray⟩]:List Value).toArray 41)):=(Below.refl _ T2).alloc (Nat.le_refl _) _
 obtain⟨W4,hW4⟩:∃ W4,T2.alloc (.cells #[.string ⟨x2.toArray⟩,.string ⟨y2.toArray⟩,.string ⟨z2.toArray⟩] 41)=W4:=⟨_,rfl⟩
 have hW4':T2.alloc (.cells ([.string ⟨x2.toArray⟩,.string ⟨y2.toArray⟩,.string ⟨z2.toArray⟩]:List Value).toArray 41)=W4:=hW4
 rw[hW4']at N hqn
 clear hW4'
 have hw4:=Q.trans hwT (Q.trans hQ2 hqn)
 have hE4:=hE.ofQ (Q.trans hQ2 hqn)
 replace BR:=BR.keep hqn BR.lt
 replace BM:=BM.keep hqn BM.lt
 replace hlf:=LfV.keep hlf hqn
 clear hE r0 r1 r2 r3 m0 m1 m2 m3 m4 m5 m6 m7 m8 m9 m10 lBR lBM
 have hE:=hE4
 clear hE4
 by_cases hz2:zgc R m (2+u+v)=0
 case neg =>
  have hzb:(zgc R m (2+u+v) != 0)=true:=by rw[bne_iff_ne];exact hz2
  clear HL2 hxyz2 BR BM N hlf HCm
  generalize zgc R m (2+u+v)=E at *
  go_wp2_with fail
  clear hW4
  refine(HAw.out _ hE).mono ?_
  rintro e we⟨rfl,hqe⟩
  have hQe:=Q.trans hw4 hqe
  go_wp2
  go_ret
  exact⟨rfl,hQe⟩
 obtain⟨rfl,rfl,rfl⟩:=hxyz2 hz2
 have HL2a:=LH (HL2.out hz2)
 rw[hz2]
 clear HL2 hxyz2 hz2 hz
 have hQ0:=Q.refl W4
 replace r0:=BR.cell 0
 replace r1:=BR.cell 1
 replace r2:=BR.cell 2
 replace r3:=BR.cell 3
 simp only[zs4,zs5]at r0 r1 r2 r3
 replace lBR:=BR.lt
 replace m0:=BM.cell 0
 replace m1:=BM.cell 1
 replace m2:=BM.cell 2
 replace m3:=BM.cell 3
 replace m4:=BM.cell 4
 replace m5:=BM.cell 5
 replace m6:=BM.cell 6
 replace m7:=BM.cell 7
 replace m8:=BM.cell 8
 replace m9:=BM.cell 9
 replace m10:=BM.cell 10
 simp only[zs4,zs5]at m0 m1 m2 m3 m4 m5 m6 m7 m8 m9 m10
 replace lBM:=BM.lt
 replace t0:=N.cell 0
 replace t1:=N.cell 1
 replace t2:=N.cell 2
 simp only[zs4,zs5]at t0 t1 t2
 replace lN:=N.lt
 go_wp2_with fail
 clear hW4
 refine(HL2a.out _ hE hw4).mono ?_
 rintro e Z1⟨lw,rfl,hz1,hlw⟩
 replace hlf:=LfV.keep hlf hz1
 have hwZ:=Q.trans hw4 hz1
 have hEZ:=hE.ofQ hz1
 clear HL2a BR BM N r0 r1 r2 r3 m0 m1 m2 m3 m4 m5 m6 m7 m8 m9 m10 lBR lBM t0 t1 t2 lN
 go_wp2_with fail
 refine(HCm.out _ _ _ _ _ hEZ (HPL.out _ hwZ) hlw hlf).mono ?_
 rintro e Z2⟨rfl,hz3⟩
 go_wp2_with fail
 refine(HAw.out _ (hEZ.ofQ hz3)).mono ?_
 rintro e we⟨rfl,hqe⟩
 have hQe:=Q.trans hwZ (Q.trans hz3 hqe)
 go_wp2
 go_ret
 exact⟨rfl,hQe⟩
end Go.Proofs.YtbpghkdadajomaaGreatDoor
