/-
  The law TruelengthTail: truelength.Tail at a rectangle, the law's walk.
-/
import Derived.Test.YtbpghkdadajomaaGreatDoorH09
import Derived.Test.YtbpghkdadajomaaGreatDoorH16
set_option maxRecDepth 100000
set_option maxHeartbeats 8000000
namespace Go.Proofs.YtbpghkdadajomaaGreatDoor
open Go.RowKit Go.Shelf Kp
attribute [local go_sem] Oper.semAt_some
def rT(o:Int):List Sd:=[⟨0,0,1,1,false,0,o⟩,⟨600,0,1,1,false,0,o⟩,⟨600,600,1,1,false,0,o⟩,⟨0,600,1,1,false,0,o⟩]
theorem zsv:(List.range 256).all (fun n=>zdX [rT (n:Int)] == 0)=true:=by kernel_rfl
theorem zsu{o:Nat}(h1:o≤255):zdX [rT o]=0:=by
 have:=List.all_eq_true.1 zsv o (List.mem_range.2 (by omega))
 simpa using this
def fT:Fr:=⟨false,0,1,1,0⟩
theorem zsY:FrOk fT:=⟨by decide,by decide,.inl rfl,⟨by decide,by decide⟩,by decide,⟨by decide,by decide⟩⟩
theorem zth:frC fT=[.bool false,.int .i64 0,.int .i64 1,.string ⟨#[49]⟩,.string ⟨#[48]⟩]:=by kernel_rfl
theorem zsB(o:Int):(rowOf frC (zfb [rT o])).take 5=[.bool false,.int .i64 0,.int .i64 1,.string ⟨#[49]⟩,.string ⟨#[48]⟩]:=by kernel_rfl
theorem zsC(o:Int)(j:Nat)(hj:j<5):(rowOf frC (zfb [rT o]))[j]? = ([.bool false,.int .i64 0,.int .i64 1,.string ⟨#[49]⟩,.string ⟨#[48]⟩]:List Value)[j]?:=by
 rw[← zsB o,List.getElem?_take_of_lt hj]
theorem zrY(x y:Rat):zr0 fT x y=y:=by
 show ((1:Int):Rat)*(y - ((0:Int):Rat))=y
 rw[show ((1:Int):Rat)=1 from rfl,show ((0:Int):Rat)=0 from rfl]
 grind
theorem zed(x y z:Rat)(hx:Bd 30 x)(hy:Bd 30 y)(w:World)(hE:Env w) :
  Calls Tryz.prog 55 #[.agg #[.bool false,.int .i64 0,.int .i64 1,.string ⟨#[49]⟩,.string ⟨#[48]⟩],.agg #[.string ⟨(za x).toArray⟩,.string ⟨(za y).toArray⟩,.string ⟨(za z).toArray⟩]] w fun e w'=>e=.returned (.tuple #[.string ⟨(za y).toArray⟩,.int .i64 0])∧Q w w':=by
 have hd:=fun w hw=>zjr fT zsY x y hx hy w hw
 rw[zrY,zth]at hd
 have HD:=LH hd
 clear hd
 generalize za x=X at *
 generalize za y=Y at *
 generalize za z=Z at *
 go_enter Tryz.func55,Tryz.ntmps55
 have hQ0:=Q.refl w
 go_wp2_with fail
 refine(HD.out _ (hE.ofQ bt)).mono ?_
 rintro e w1⟨rfl,hq1⟩
 have hs1:Q w w1:=Q.trans bt hq1
 have hQ1:Q w w1:=Q.trans hQ0 hs1
 go_wp2
 go_ret2
 exact⟨rfl,bt⟩
def zeK(W:World)(B:Nat)(v:Value)(x:Rat)(l:Nat):Prop:=(x=0∧v=.slice none 0 0)∨(x≠0∧zaJ W B v x l)
theorem zeK.keep{W W':World}{B:Nat}{v:Value}{x:Rat}{l:Nat}(h:zeK W B v x l)(hq:Q W W'):zeK W' B v x l:=h.elim .inl (fun h=>.inr ⟨h.1,zU h.2 hq⟩)
theorem zeK.low{W:World}{a b:Nat}{v:Value}{x:Rat}{l:Nat}(h:zeK W a v x l)(hb:b≤a):zeK W b v x l:=h.elim .inl (fun h=>.inr ⟨h.1,Joins.ownsRow_le h.2 hb⟩)
def tP(a:Nat):P3:=⟨(a:Rat),0,0⟩
def tT(a W h:Nat):P3:=⟨(a:Rat),(W:Rat),(h:Rat)⟩
def tN(W h:Nat):Nat:=W*W+h*h
theorem zsl(a W h:Nat):(tT a W h).sub (tP a)=⟨0,(W:Rat),(h:Rat)⟩:=by
 unfold P3.sub tT tP
 simp only[P3.mk.injEq]
 exact⟨by grind,by grind,by grind⟩
theorem zs6(a W h:Nat):((tT a W h).sub (tP a)).sq=((tN W h:Nat):Rat):=by
 rw[zsl]
 unfold P3.sq tN
 rw[Rat.natCast_add,Rat.natCast_mul,Rat.natCast_mul]
 grind
theorem zsS{W h:Nat}(hW:W≤256)(hh:h≤255):tN W h≤130561:=by
 unfold tN
 have h1:W*W≤256*256:=Nat.mul_le_mul hW hW
 have h2:h*h≤255*255:=Nat.mul_le_mul hh hh
 omega
theorem zdA{n k:Nat}(h:n<10 ^ k)(hk:0<k):Bd k (n:Rat):=⟨by rw[Rat.num_natCast,Int.natAbs_natCast];exact h,by rw[Rat.den_natCast];exact Nat.one_lt_pow (by omega) (by decide)⟩
def tC(o W:Nat):Rat:=Rat.divInt ((min W o:Nat):Int) (W:Nat)
def tX(o W h:Nat):Rat:=aOf ((tN W h:Nat):Rat)*tC o W
def tL(W h:Nat):Nat:=leftOf ((tN W h:Nat):Rat)
structure TOk (o W h:Nat):Prop where
 w1:1≤W
 w2:W≤256
 o2:o≤255
 h2:h≤255
theorem TOk.b{o W h:Nat}(k:TOk o W h):Bd 6 ((tN W h:Nat):Rat):=zdA (by have:=zsS k.w2 k.h2;omega) (by decide)
theorem TOk.p{o W h:Nat}(k:TOk o W h):0<((tN W h:Nat):Rat).num:=by
 rw[Rat.num_natCast]
 have:0<W*W:=Nat.mul_pos k.w1 k.w1
 unfold tN
 omega
theorem TOk.c{o W h:Nat}(k:TOk o W h):Bd 3 (tC o W):=by
 have:=k.w1;have:=k.w2
 exact zbQ (by omega) (by rw[Int.natAbs_natCast];omega) (by omega)
theorem TOk.len{o W h:Nat}(k:TOk o W h):PTerm (aOf ((tN W h:Nat):Rat)) (tL W h):=by
 have b:=k.b
 have p:=k.p
 refine⟨zmi (b.mono (by decide)) p,zsd b p,(zj3 b p).mono (by decide),?_,?_⟩
 ·have h1:(aOf ((tN W h:Nat):Rat)).den≤1:=Nat.le_trans (zew (Rat.den_pos _)) (by rw[Rat.den_natCast];exact Nat.le_refl 1)
  exact Nat.lt_of_le_of_lt h1 (by decide)
 ·have h:=(show Bd 12 (leftOf ((tN W h:Nat):Rat):Rat)from zpC b p (by decide)).1
  rw[Rat.num_natCast,Int.natAbs_natCast]at h
  exact Nat.lt_of_lt_of_le h (by decide)
theorem TOk.part{o W h:Nat}(k:TOk o W h)(ho:0<o):PTerm (tX o W h) (tL W h):=by
 have b:=k.b
 have p:=k.p
 have hl:=k.len
 have bc:=k.c
 have h1:=k.w1
 have h2:=k.w2
 have pc:0<(tC o W).num:=zaz (by omega) (by omega)
 have bx:Bd 15 (tX o W h):=(zj3 b p).mul bc
 have px:=zfV hl.pos pc
 refine⟨⟨bx.zak (by decide),zc7 px,by have:=zbd bx (by decide);omega,hl.t.norm,hl.t.c40⟩,px,bx.mono (by decide),?_,hl.bl⟩
 have h3:(aOf ((tN W h:Nat):Rat)).den≤1:=Nat.le_trans (zew (Rat.den_pos _)) (by rw[Rat.den_natCast];exact Nat.le_refl 1)
 have h4:=zoz (aOf ((tN W h:Nat):Rat)) (tC o W)
 have h5:=Nat.mul_le_mul h3 (Nat.le_of_lt bc.2)
 unfold tX
 omega
theorem zoR(W:Nat):tC 0 W=0:=by
 unfold tC
 rw[Nat.min_zero]
 exact Rat.zero_divInt _
theorem zj9(W h:Nat):tX 0 W h=0:=by unfold tX;rw[zoR,Rat.mul_zero]
theorem zoT{o W:Nat}(h1:1≤W)(h:W≤o):tC o W=1:=by
 unfold tC
 rw[Nat.min_eq_left h,Rat.divInt_eq_div,Rat.intCast_natCast]
 have:=nat_ne h1
 grind
theorem zoS{o W:Nat}(h:o≤W):tC o W=(o:Rat) / (W:Rat):=by
 unfold tC
 rw[Nat.min_eq_right h,Rat.divInt_eq_div,Rat.intCast_natCast,Rat.intCast_natCast]
theorem zsV{o W:Nat}(h1:1≤W)(h:o<W):tC o W<1:=by
 rw[zoS (by omega),Rat.div_def]
 have h2:(o:Rat)<(W:Rat):=by exact_mod_cast h
 have h3:(0:Rat)<(W:Rat):=by exact_mod_cast h1
 have:=Rat.mul_lt_mul_of_pos_right h2 (Rat.inv_pos.2 h3)
 rwa[Rat.mul_inv_cancel _ (nat_ne h1)]at this
theorem zsm{o W h:Nat}(k:TOk o W h)(ho:0<o):∃ σ,zrA (tX o W h*tX o W h*(tL W h:Rat)) (aOf ((tN W h:Nat):Rat)*aOf ((tN W h:Nat):Rat)*(tL W h:Rat)) σ∧(σ=0∨σ = -1):=by
 have h1:=k.w1
 by_cases hw:W≤o
 ·refine⟨0,.inr (.inl ⟨?_,rfl⟩),.inl rfl⟩
  unfold tX
  rw[zoT h1 hw,Rat.mul_one]
 ·refine⟨-1,.inl ⟨?_,rfl⟩,.inr rfl⟩
  have c1:=zsV h1 (show o<W by omega)
  have c0:0<tC o W:=rpos (zaz (by omega) (by omega))
  have hs:=zrK _ k.p
  have hs0:0<((tN W h:Nat):Rat):=rpos k.p
  have e:tX o W h*tX o W h*(tL W h:Rat)=tC o W*tC o W*((tN W h:Nat):Rat):=by
   unfold tX tL
   rw[← hs]
   grind
  unfold tL at *
  rw[e,hs]
  have h2:tC o W*tC o W<1:=by
   have:=Rat.mul_lt_mul_of_pos_right c1 c0
   rw[Rat.one_mul]at this
   grind
  have:=Rat.mul_lt_mul_of_pos_right h2 hs0
  rwa[Rat.one_mul]at this
theorem zoP{o W h:Nat}(k:TOk o W h)(B:Nat)(v:Value)(w:World)(hE:Env w)(hv:zaJ w B v (aOf ((tN W h:Nat):Rat)) (tL W h)) :
  Calls Tryz.prog 11 #[v,.string ⟨(za (tC o W)).toArray⟩] w fun e w'=>∃ v',e=.returned (.tuple #[v',.int .i64 0])∧Q w w'∧zeK w' w.heap.size v' (tX o W h) (tL W h):=by
 have hl:=k.len
 rcases Nat.eq_zero_or_pos o with rfl | ho
 ·rw[zoR,zI,zj9]
  refine(zin _ _ hl.t (hl.bx.mono (by decide)) (Nat.lt_of_lt_of_le hl.bl (by decide)) B v w hE hv).mono ?_
  rintro e w'⟨rfl,hq⟩
  exact⟨_,rfl,hq,.inl ⟨rfl,rfl⟩⟩
 ·have h1:=k.w1
  have pc:0<(tC o W).num:=zaz (by omega) (by omega)
  refine(zfw _ (tC o W) _ hl.t (hl.bx.mono (by decide)) k.c (by decide) (zc7 pc) (Nat.lt_of_lt_of_le hl.bl (by decide)) B v w hE hv).mono ?_
  rintro e w'⟨v',rfl,hq,hs⟩
  exact⟨_,rfl,hq,.inr ⟨(k.part ho).t.ne,hs⟩⟩
theorem zsn{o W h:Nat}(k:TOk o W h)(B1 B2:Nat)(v1 v2:Value)(w:World)(hE:Env w)(h1:zeK w B1 v1 (tX o W h) (tL W h))(h2:zeK w B2 v2 (tX o W h) (tL W h)) :
  Calls Tryz.prog 16 #[v1,v2] w fun e w'=>e=.returned (.tuple #[.int .i64 0,.int .i64 0])∧Q w w':=by
 rcases h1 with⟨e1,rfl⟩|⟨n1,h1⟩
 ·rcases h2 with⟨-,rfl⟩|⟨n2,-⟩
  ·exact zg2 w
  ·exact absurd e1 n2
 ·rcases h2 with⟨e2,-⟩|⟨n2,h2⟩
  ·exact absurd e2 n1
  ·have ho:0<o:=by
    rcases Nat.eq_zero_or_pos o with rfl | ho
    ·exact absurd (zj9 W h) n1
    ·exact ho
   exact zeC _ _ _ _ (k.part ho) (k.part ho) 0 (.inr (.inl ⟨rfl,rfl⟩)) B1 B2 v1 v2 w hE h1 h2
theorem zoO{o W h:Nat}(k:TOk o W h):∃ σ:Int,(σ=0∨σ = -1)∧∀ (B1 B2:Nat) (v1 v2:Value) (w:World),Env w→zeK w B1 v1 (tX o W h) (tL W h)→zaJ w B2 v2 (aOf ((tN W h:Nat):Rat)) (tL W h) →
  Calls Tryz.prog 16 #[v1,v2] w fun e w'=>e=.returned (.tuple #[.int .i64 σ,.int .i64 0])∧Q w w':=by
 have hl:=k.len
 rcases Nat.eq_zero_or_pos o with rfl | ho
 ·refine⟨-1,.inr rfl,fun B1 B2 v1 v2 w hE h1 h2=>?_⟩
  rcases h1 with⟨-,rfl⟩|⟨n1,-⟩
  ·exact zeE _ _ hl.t hl.pos hl.bx hl.dx hl.bl B2 v2 w hE h2
  ·exact absurd (zj9 W h) n1
 ·obtain⟨σ,hσ,hr⟩:=zsm k ho
  refine⟨σ,hr,fun B1 B2 v1 v2 w hE h1 h2=>?_⟩
  rcases h1 with⟨e1,-⟩|⟨n1,h1⟩
  ·exact absurd e1 (k.part ho).t.ne
  ·exact zeC _ _ _ _ (k.part ho) hl σ hσ B1 B2 v1 v2 w hE h1 h2
theorem zrc{w w':World}{a:Addr}{v:Value}(h:w.cell? a=some v)(hq:Q w w'):w'.cell? a=some v:=ze hq h
theorem zs7{a W h:Nat}(hW:1≤W):tP a≠tT a W h:=fun e=>nat_ne hW (congrArg P3.y e).symm
theorem zl9:Bd 3 0:=⟨by decide,by decide⟩
theorem zs8{a:Nat}(ha:a≤255):B3 3 (tP a):=⟨zdA (by omega) (by decide),zl9,zl9⟩
theorem zsO{a W h:Nat}(ha:a≤255)(hW:W≤256)(hh:h≤255):B3 3 (tT a W h):=⟨zdA (by omega) (by decide),zdA (by omega) (by decide),zdA (by omega) (by decide)⟩
theorem tVM(k:Int)(a W h:Nat):VM k 60 180 (tP a) (tT a W h)=.agg #[.int .i64 k,.int .i64 0,.int .i64 (-1),.string ⟨(Lib.itoa (a:Int)).toArray⟩,.string ⟨#[48]⟩,.string ⟨#[48]⟩,.string ⟨(Lib.itoa (a:Int)).toArray⟩,.string ⟨(Lib.itoa (W:Int)).toArray⟩,.string ⟨(Lib.itoa (h:Int)).toArray⟩,.int .i64 60,.int .i64 180]:=by
 unfold VM tP tT
 simp only[zT,zI]
theorem zm2{o W h:Nat}(k:TOk o W h)(a:Nat)(ha:a≤255)(w:World)(hE:Env w) :
  Calls Tryz.prog 21 #[VM 1 60 180 (tP a) (tT a W h)] w fun e w'=>∃ v,e=.returned (.tuple #[v,.int .i64 0])∧Q w w'∧zaJ w' w.heap.size v (aOf ((tN W h:Nat):Rat)) (tL W h):=by
 have:=zfH (m:=3) (by decide) 1 60 180 zpw (tP a) (tT a W h) (zs8 ha) (zsO ha k.w2 k.h2) (by decide) (zs7 k.w1) w hE (by rw[zsl];exact⟨zl9,(zsO ha k.w2 k.h2).2.1,(zsO ha k.w2 k.h2).2.2⟩) (by rw[zs6];exact k.b.mono (by decide))
 rw[zs6]at this
 refine this.mono ?_
 rintro e w'⟨v,rfl,hq,hl⟩
 exact⟨v,rfl,hq,hl.elim (fun h=>absurd h.1 (zc7 k.p)) (fun h=>h.2)⟩
theorem zoJ{o W h:Nat}(k:TOk o W h)(a:Nat)(ha:a≤255)(a0:Option Addr)(c0:Nat)(w:World)(hE:Env w)(hv:zf9 w (.slice a0 1 c0) [rT o]) :
  Calls Tryz.prog 20 #[.agg #[.slice a0 1 c0,.slice none 0 0,.slice none 0 0,.slice none 0 0],VM 1 60 180 (tP a) (tT a W h)] w fun e w'=>∃ v,e=.returned (.tuple #[v,.int .i64 0])∧Q w w'∧zeK w' w.heap.size v (tX o W h) (tL W h):=by
 have hp:=zsu k.o2
 have hw1:=k.w1
 have hw2:=k.w2
 have ho2:=k.o2
 have hh2:=k.h2
 have HS1:Hid (∀ V,Q w V→Calls Tryz.prog 25 #[.agg #[.slice a0 1 c0]] V fun e w'=>∃ v',e=.returned (.tuple #[v',.int .i64 0])∧Q V w'∧zcS 7 sdC w' v' (rT o)):=LH (fun V hq=>zjG [rT o] hp (by simp) _ V (hv.keep hq))
 have HA:Hid (∀ V,Env V→Q w V→Calls Tryz.prog 26 #[.agg #[.slice a0 1 c0]] V fun e w'=>∃ v',e=.returned (.tuple #[v',.int .i64 0])∧w'.ownsRow V.heap.size 76 5 v' 4 (rowOf frC (zfb [rT o]))∧Q V w'):=LH (fun V hV hq=>zlZ [rT o] hp (by simp) _ V hV (hv.keep hq))
 have hh:=fun w hw=>zgP (n:=3) 1 60 180 zpw (tP a) (tT a W h) (zs8 ha) (zsO ha hw2 hh2) (by decide) (zs7 hw1) w hw
 have hl:=fun w hw=>zm2 k a ha w hw
 have hd1:=fun w hw=>zed (a:Rat) 0 0 (zdA (by omega) (by decide)) (zl9.mono (by decide)) w hw
 have hd2:=fun w hw=>zed (a:Rat) (W:Rat) (h:Rat) (zdA (k:=30) (by omega) (by decide)) (zdA (by omega) (by decide)) w hw
 simp only[zT,zI]at hd1 hd2
 rw[tVM]at hh hl ⊢
 have hof:=fun w hw=>zaH (o:Int) 1 (by decide) (by omega) (by decide) w hw
 rw[zfn,Rat.intCast_natCast,zT]at hof
 have hln:∀ n:Nat,n≤256→lim (n:Int)=false:=fun n hn=>zbb (n:=3) (by rw[Int.natAbs_natCast];omega) (by decide)
 have HC:=LH (fun w hw=>zbY W o (hln W (by omega)) (hln o (by omega)) w hw)
 have hdv:=fun w hw=>zcf (o:Rat) (W:Rat) (zdA (k:=3) (by omega) (by decide)) (zdA (k:=3) (by omega) (by decide)) (by rw[Rat.num_natCast];omega) (by decide) w hw
 simp only[zT]at hdv
 have hdc:o≤W→za ((o:Rat) / (W:Rat))=za (tC o W):=fun h=>by rw[zoS h]
 have hfc:W≤o→za (tC o W)=[49]:=fun h=>by rw[zoT hw1 h,zaM]
 have HP:=LH (fun w=>zG (Lib.itoa (W:Int)) w)
 have hneg:decide ((Lib.itoa (W:Int)).head? = some 45)=false:=by rw[decide_eq_false_iff_not,← zT,zbf,Rat.num_natCast];omega
 rw[hneg]at HP
 have hW0:(Lib.itoa (W:Int) == [48])=false:=by
  rw[beq_eq_false_iff_ne,← zT,← zI]
  exact fun e=>nat_ne hw1 (zav e)
 have HSc:=LH (fun B v w hw hv=>zoP k B v w hw hv)
 have HH:=LH hh
 have HL:=LH hl
 have HD1:=LH hd1
 have HD2:=LH hd2
 have HO:=LH hof
 have HDv:=LH hdv
 have HDC:=LH hdc
 have HFC:=LH hfc
 have HFT:=LH (fun j hj=>zsC (o:Int) j hj)
 have h4:(rT (o:Int)).length=4:=rfl
 have ho6:sdC (zcV (rT (o:Int)) 0)=[.int .i64 0,.int .i64 0,.int .i64 1,.int .i64 1,.bool false,.int .i64 0,.int .i64 o]:=rfl
 clear hp hh hl hd1 hd2 hof hdv hdc hfc hneg hln hw1 hw2 ho2 hh2 hv
 generalize za ((o:Rat) / (W:Rat))=DV at *
 generalize za (tC o W)=CS at *
 generalize tX o W h=TX at *
 generalize aOf ((tN W h:Nat):Rat)=AX at *
 generalize tL W h=LX at *
 generalize Lib.itoa (a:Int)=A at *
 generalize Lib.itoa (W:Int)=WS at *
 generalize Lib.itoa (h:Int)=HS at *
 generalize Lib.itoa (o:Int)=OS at *
 have BR:=(Blk.new w [.slice a0 1 c0,.slice none 0 0,.slice none 0 0,.slice none 0 0] 29).alloc (.cells #[.int .i64 1,.int .i64 0,.int .i64 (-1),.string ⟨A.toArray⟩,.string ⟨#[48]⟩,.string ⟨#[48]⟩,.string ⟨A.toArray⟩,.string ⟨WS.toArray⟩,.string ⟨HS.toArray⟩,.int .i64 60,.int .i64 180] 34)
 have BM:=Blk.new1 w (.cells #[.slice a0 1 c0,.slice none 0 0,.slice none 0 0,.slice none 0 0] 29) [.int .i64 1,.int .i64 0,.int .i64 (-1),.string ⟨A.toArray⟩,.string ⟨#[48]⟩,.string ⟨#[48]⟩,.string ⟨A.toArray⟩,.string ⟨WS.toArray⟩,.string ⟨HS.toArray⟩,.int .i64 60,.int .i64 180] 34
 obtain⟨W0,hW0⟩:∃ W0,(w.alloc (.cells #[.slice a0 1 c0,.slice none 0 0,.slice none 0 0,.slice none 0 0] 29)).alloc (.cells #[.int .i64 1,.int .i64 0,.int .i64 (-1),.string ⟨A.toArray⟩,.string ⟨#[48]⟩,.string ⟨#[48]⟩,.string ⟨A.toArray⟩,.string ⟨WS.toArray⟩,.string ⟨HS.toArray⟩,.int .i64 60,.int .i64 180] 34)=W0:=⟨_,rfl⟩
 have hq0:Q w W0:=by rw[← hW0];exact bt
 have hEw:=hE.ofQ hq0
 rw[hW0]at BR
 have BM:Blk W0 (w.heap.size+1) [.int .i64 1,.int .i64 0,.int .i64 (-1),.string ⟨A.toArray⟩,.string ⟨#[48]⟩,.string ⟨#[48]⟩,.string ⟨A.toArray⟩,.string ⟨WS.toArray⟩,.string ⟨HS.toArray⟩,.int .i64 60,.int .i64 180] 34:=by rw[← hW0];exact BM
 clear hE
 have hE:=hEw
 clear hEw
 have hQ0:=Q.refl W0
 replace r0:=BR.cell 0
 replace r1:=BR.cell 1
 replace r2:=BR.cell 2
 replace r3:=BR.cell 3
 simp only[zs4,zs5]at r0 r1 r2 r3
 replace lBR:=BR.lt
 replace m0:=BM.cell 0
 replace m1:=BM.cell 1
 replace m2:=BM.cell 2
 replace m3:=BM.cell 3
 replace m4:=BM.cell 4
 replace m5:=BM.cell 5
 replace m6:=BM.cell 6
 replace m7:=BM.cell 7
 replace m8:=BM.cell 8
 replace m9:=BM.cell 9
 replace m10:=BM.cell 10
 simp only[zs4,zs5]at m0 m1 m2 m3 m4 m5 m6 m7 m8 m9 m10
 replace lBM:=BM.lt
 go_enter Tryz.func20,Tryz.ntmps20
 go_wp2_with fail
 clear hW0
 go_wp2_with fail
 refine(HH.out _ (hE.ofQ bt)).mono ?_
 rintro e Y1⟨rfl,hq1⟩
 have hs1:Q W0 Y1:=Q.trans bt hq1
 have hQ1:Q W0 Y1:=Q.trans hQ0 hs1
 replace BR:=BR.keep hs1 BR.lt
 replace r0:=BR.cell 0
 replace r1:=BR.cell 1
 replace r2:=BR.cell 2
 replace r3:=BR.cell 3
 simp only[zs4,zs5]at r0 r1 r2 r3
 replace lBR:=BR.lt
 replace BM:=BM.keep hs1 BM.lt
 replace m0:=BM.cell 0
 replace m1:=BM.cell 1
 replace m2:=BM.cell 2
 replace m3:=BM.cell 3
 replace m4:=BM.cell 4
 replace m5:=BM.cell 5
 replace m6:=BM.cell 6
 replace m7:=BM.cell 7
 replace m8:=BM.cell 8
 replace m9:=BM.cell 9
 replace m10:=BM.cell 10
 simp only[zs4,zs5]at m0 m1 m2 m3 m4 m5 m6 m7 m8 m9 m10
 replace lBM:=BM.lt
 go_wp2_with fail
 refine(HS1.out _ (Q.trans hq0 hQ1)).mono ?_
 rintro e Y2⟨vs,rfl,hq2,hrow⟩
 have hs2:Q Y1 Y2:=Q.trans bt hq2
 have hQ2:Q W0 Y2:=Q.trans hQ1 hs2
 replace BR:=BR.keep hs2 BR.lt
 replace r0:=BR.cell 0
 replace r1:=BR.cell 1
 replace r2:=BR.cell 2
 replace r3:=BR.cell 3
 simp only[zs4,zs5]at r0 r1 r2 r3
 replace lBR:=BR.lt
 replace BM:=BM.keep hs2 BM.lt
 replace m0:=BM.cell 0
 replace m1:=BM.cell 1
 replace m2:=BM.cell 2
 replace m3:=BM.cell 3
 replace m4:=BM.cell 4
 replace m5:=BM.cell 5
 replace m6:=BM.cell 6
 replace m7:=BM.cell 7
 replace m8:=BM.cell 8
 replace m9:=BM.cell 9
 replace m10:=BM.cell 10
 simp only[zs4,zs5]at m0 m1 m2 m3 m4 m5 m6 m7 m8 m9 m10
 replace lBM:=BM.lt
 obtain⟨aa,cap,rfl,-⟩:=id hrow
 obtain⟨-,hrw,-⟩:=zcS.at hrow
 obtain⟨b,q,rfl,hd⟩:=hrw 0 (by rw[h4];decide)
 rw[ho6]at hd
 have d6:Y2.cell? ⟨b,q+6,none⟩=some (.int .i64 o):=by
  have:=hd 6 _ rfl
  rwa[Nat.zero_mul,Nat.add_zero]at this
 rw[h4]
 clear hd hrw hrow HS1 HH ho6 h4
 go_wp2_with fail
 refine(HA.out _ (hE.ofQ bt) (Q.trans hq0 hQ2)).mono ?_
 rintro e Y3⟨vf,rfl,hown,hq3⟩
 have hs3:Q Y2 Y3:=Q.trans bt hq3
 have hQ3:Q W0 Y3:=Q.trans hQ2 hs3
 replace d6:=zrc d6 hs3
 replace BR:=BR.keep hs3 BR.lt
 replace r0:=BR.cell 0
 replace r1:=BR.cell 1
 replace r2:=BR.cell 2
 replace r3:=BR.cell 3
 simp only[zs4,zs5]at r0 r1 r2 r3
 replace lBR:=BR.lt
 replace BM:=BM.keep hs3 BM.lt
 replace m0:=BM.cell 0
 replace m1:=BM.cell 1
 replace m2:=BM.cell 2
 replace m3:=BM.cell 3
 replace m4:=BM.cell 4
 replace m5:=BM.cell 5
 replace m6:=BM.cell 6
 replace m7:=BM.cell 7
 replace m8:=BM.cell 8
 replace m9:=BM.cell 9
 replace m10:=BM.cell 10
 simp only[zs4,zs5]at m0 m1 m2 m3 m4 m5 m6 m7 m8 m9 m10
 replace lBM:=BM.lt
 obtain⟨g,cp,rfl⟩:=zkk hown (by decide)
 have f0:=hown.cells rfl 0 _ ((HFT.out 0 (by decide)).trans rfl)
 have f1:=hown.cells rfl 1 _ ((HFT.out 1 (by decide)).trans rfl)
 have f2:=hown.cells rfl 2 _ ((HFT.out 2 (by decide)).trans rfl)
 have f3:=hown.cells rfl 3 _ ((HFT.out 3 (by decide)).trans rfl)
 have f4:=hown.cells rfl 4 _ ((HFT.out 4 (by decide)).trans rfl)
 rw[Addr.add_lit]at f0 f1 f2 f3 f4
 clear hown HFT HA
 have hEd:Env Y3.drew:=hE.ofQ (Q.trans hQ3 (Below.drew (Q.refl Y3)))
 go_wp2_with fail
 refine zo 13 rfl (by kernel_rfl) rfl ?_
 refine svp 0 ?_
 refine svp 1 ?_
 refine svq 2 rfl (by intro w' hq;have hc0:=ze hq m1;go_simp;try with_reducible rfl) ?_
 refine svp 3 ?_
 refine svq 4 rfl (by intro w' hq;have hc0:=ze hq f0;have hc1:=ze hq f1;have hc2:=ze hq f2;have hc3:=ze hq f3;have hc4:=ze hq f4;go_simp;try with_reducible rfl) ?_
 refine svp 5 ?_
 refine svq 6 rfl (by intro w' hq;have hc0:=ze hq m3;have hc1:=ze hq m4;have hc2:=ze hq m5;go_simp;try with_reducible rfl) ?_
 refine zh (i:=7) (v:=_) rfl rfl (by kernel_rfl) (by kernel_rfl) (fun _ _ _ h=>h) (by rfl) ?_ (fun w' hq=>HD1.out w' (hEd.ofQ hq)) ?_
 ·(intro w' hq;go_simp;try with_reducible rfl)
 simp only[Act.put,zs1,zs2,zs3]
 refine svp 8 ?_
 refine svp 9 ?_
 refine svp 10 ?_
 refine svp 11 ?_
 refine svp 12 ?_
 refine zi (by kernel_rfl) (fun w3 hq3=>?_)
 simp only[List.drop_succ_cons,List.drop_nil]
 have hqa:Q Y3 w3:=Q.trans (Below.drew (Q.refl Y3)) hq3
 replace f0:=ze hqa f0
 replace f1:=ze hqa f1
 replace f2:=ze hqa f2
 replace f3:=ze hqa f3
 replace f4:=ze hqa f4
 replace d6:=ze hqa d6
 replace BM:=BM.keep hqa BM.lt
 have hwa:=Q.trans hq0 (Q.trans hQ3 hqa)
 have hEa:=hE.ofQ (Q.trans hQ3 hqa)
 have hEe:Env w3.drew:=hE.ofQ (Q.trans hQ3 (Q.trans hqa (Below.drew (Q.refl w3))))
 clear hq3 HD1 hE BR r0 r1 r2 r3 lBR m0 m1 m2 m3 m4 m5 m6 m7 m8 m9 m10 lBM
 have hE:=hEa
 have hQ0:=Q.refl w3
 replace m0:=BM.cell 0
 replace m1:=BM.cell 1
 replace m2:=BM.cell 2
 replace m3:=BM.cell 3
 replace m4:=BM.cell 4
 replace m5:=BM.cell 5
 replace m6:=BM.cell 6
 replace m7:=BM.cell 7
 replace m8:=BM.cell 8
 replace m9:=BM.cell 9
 replace m10:=BM.cell 10
 simp only[zs4,zs5]at m0 m1 m2 m3 m4 m5 m6 m7 m8 m9 m10
 replace lBM:=BM.lt
 go_wp2_with fail
 refine zo 13 rfl (by kernel_rfl) rfl ?_
 refine svp 0 ?_
 refine svp 1 ?_
 refine svq 2 rfl (by intro w' hq;have hc0:=ze hq m1;go_simp;try with_reducible rfl) ?_
 refine svp 3 ?_
 refine svq 4 rfl (by intro w' hq;have hc0:=ze hq f0;have hc1:=ze hq f1;have hc2:=ze hq f2;have hc3:=ze hq f3;have hc4:=ze hq f4;go_simp;try with_reducible rfl) ?_
 refine svp 5 ?_
 refine svq 6 rfl (by intro w' hq;have hc0:=ze hq m6;have hc1:=ze hq m7;have hc2:=ze hq m8;go_simp;try with_reducible rfl) ?_
 refine zh (i:=7) (v:=_) rfl rfl (by kernel_rfl) (by kernel_rfl) (fun _ _ _ h=>h) (by rfl) ?_ (fun w' hq=>HD2.out w' (hEe.ofQ hq)) ?_
 ·(intro w' hq;go_simp;try with_reducible rfl)
 simp only[Act.put,zs1,zs2,zs3]
 refine svp 8 ?_
 refine svp 9 ?_
 refine svp 10 ?_
 refine svp 11 ?_
 refine svp 12 ?_
 refine zi (by kernel_rfl) (fun w5 hq5=>?_)
 simp only[List.drop_succ_cons,List.drop_nil]
 have hqb:Q w3 w5:=Q.trans (Below.drew (Q.refl w3)) hq5
 replace d6:=ze hqb d6
 replace BM:=BM.keep hqb BM.lt
 have hwb:=Q.trans hwa hqb
 have hEb:=hE.ofQ hqb
 clear hq5 HD2 hE hEa hEe hEd f0 f1 f2 f3 f4 m0 m1 m2 m3 m4 m5 m6 m7 m8 m9 m10 lBM
 have hE:=hEb
 clear hEb
 have hQ0:=Q.refl w5
 replace m0:=BM.cell 0
 replace m1:=BM.cell 1
 replace m2:=BM.cell 2
 replace m3:=BM.cell 3
 replace m4:=BM.cell 4
 replace m5:=BM.cell 5
 replace m6:=BM.cell 6
 replace m7:=BM.cell 7
 replace m8:=BM.cell 8
 replace m9:=BM.cell 9
 replace m10:=BM.cell 10
 simp only[zs4,zs5]at m0 m1 m2 m3 m4 m5 m6 m7 m8 m9 m10
 replace lBM:=BM.lt
 go_wp2_with fail
 refine(HP.out _).mono ?_
 rintro e wp⟨rfl,rfl⟩
 go_wp2_with fail
 refine(HL.out _ (hE.ofQ bt)).mono ?_
 rintro e V1⟨lv,rfl,hq1,hlv⟩
 have hs1:Q w5 V1:=Q.trans bt hq1
 have hQ1:Q w5 V1:=Q.trans hQ0 hs1
 replace d6:=zrc d6 hs1
 replace BM:=BM.keep hs1 BM.lt
 replace m0:=BM.cell 0
 replace m1:=BM.cell 1
 replace m2:=BM.cell 2
 replace m3:=BM.cell 3
 replace m4:=BM.cell 4
 replace m5:=BM.cell 5
 replace m6:=BM.cell 6
 replace m7:=BM.cell 7
 replace m8:=BM.cell 8
 replace m9:=BM.cell 9
 replace m10:=BM.cell 10
 simp only[zs4,zs5]at m0 m1 m2 m3 m4 m5 m6 m7 m8 m9 m10
 replace lBM:=BM.lt
 go_wp2_with fail
 refine(HO.out _ (hE.ofQ bt)).mono ?_
 rintro e V2⟨rfl,hq2⟩
 have hs2:Q V1 V2:=Q.trans bt hq2
 have hQ2:Q w5 V2:=Q.trans hQ1 hs2
 replace d6:=zrc d6 hs2
 replace hlv:=zU hlv hs2
 replace BM:=BM.keep hs2 BM.lt
 replace m0:=BM.cell 0
 replace m1:=BM.cell 1
 replace m2:=BM.cell 2
 replace m3:=BM.cell 3
 replace m4:=BM.cell 4
 replace m5:=BM.cell 5
 replace m6:=BM.cell 6
 replace m7:=BM.cell 7
 replace m8:=BM.cell 8
 replace m9:=BM.cell 9
 replace m10:=BM.cell 10
 simp only[zs4,zs5]at m0 m1 m2 m3 m4 m5 m6 m7 m8 m9 m10
 replace lBM:=BM.lt
 go_wp2_with fail
 refine(HC.out _ (hE.ofQ bt)).mono ?_
 rintro e V3⟨rfl,hq3⟩
 have hs3:Q V2 V3:=Q.trans bt hq3
 have hQ3:Q w5 V3:=Q.trans hQ2 hs3
 replace d6:=zrc d6 hs3
 replace hlv:=zU hlv hs3
 replace BM:=BM.keep hs3 BM.lt
 replace m0:=BM.cell 0
 replace m1:=BM.cell 1
 replace m2:=BM.cell 2
 replace m3:=BM.cell 3
 replace m4:=BM.cell 4
 replace m5:=BM.cell 5
 replace m6:=BM.cell 6
 replace m7:=BM.cell 7
 replace m8:=BM.cell 8
 replace m9:=BM.cell 9
 replace m10:=BM.cell 10
 simp only[zs4,zs5]at m0 m1 m2 m3 m4 m5 m6 m7 m8 m9 m10
 replace lBM:=BM.lt
 clear BM lBM m0 m1 m2 m3 m4 m5 m6 m7 m8 m9 m10
 clear d6
 clear HP HL HO HC
 obtain⟨σ,hσ⟩:∃ σ,Lib.compareInt (W:Int) (o:Int)=σ:=⟨_,rfl⟩
 rw[hσ]
 by_cases hle:o≤W
 ·have hs0:0≤σ:=by
   rw[← hσ]
   unfold Lib.compareInt
   split
   ·omega
   ·split <;> decide
  have hds:decide (0≤σ)=true:=decide_eq_true hs0
  clear hσ
  have e:=HDC.out hle
  subst e
  go_wp2_with fail
  refine(HDv.out _ (hE.ofQ bt)).mono ?_
  rintro e V4⟨rfl,hq4⟩
  have hs4:Q V3 V4:=Q.trans bt hq4
  have hQ4:Q w5 V4:=Q.trans hQ3 hs4
  replace hlv:=zU hlv hs4
  go_wp2_with fail
  refine(HSc.out _ _ _ (hE.ofQ (Q.trans hQ4 (Q.refl _))) hlv).mono ?_
  rintro e we⟨v',rfl,hqe,hv⟩
  have hz:=(Q.trans hwb hQ4).size
  have hQe:=Q.trans hwb (Q.trans hQ4 hqe)
  go_wp2
  go_ret2
  exact⟨_,rfl,hQe,hv.low hz⟩
 ·have hs0:σ<0:=by
   rw[← hσ]
   unfold Lib.compareInt
   rw[if_pos (by omega)]
   decide
  have hds:decide (0≤σ)=false:=by rw[decide_eq_false_iff_not];omega
  clear hσ
  have e:=HFC.out (by omega)
  subst e
  go_wp2_with fail
  refine(HSc.out _ _ _ (hE.ofQ hQ3) hlv).mono ?_
  rintro e we⟨v',rfl,hqe,hv⟩
  have hz:=(Q.trans hwb hQ3).size
  have hQe:=Q.trans hwb (Q.trans hQ3 hqe)
  go_wp2
  go_ret2
  exact⟨_,rfl,hQe,hv.low hz⟩
def uP(a:Nat):P3:=⟨(a:Rat),Rat.divInt (1:Int) ((2:Nat):Int),0⟩
def uT(a W h:Nat):P3:=⟨(a:Rat),Rat.divInt (2*(W:Int)+1) ((2:Nat):Int),(h:Rat)⟩
theorem uVM(k:Int)(a W h:Nat):VM k 60 180 (uP a) (uT a W h)=.agg #[.int .i64 k,.int .i64 0,.int .i64 (-1),.string ⟨(Lib.itoa (a:Int)).toArray⟩,.string ⟨(za (Rat.divInt (1:Int) ((2:Nat):Int))).toArray⟩,.string ⟨#[48]⟩,.string ⟨(Lib.itoa (a:Int)).toArray⟩,.string ⟨(za (Rat.divInt (2*(W:Int)+1) ((2:Nat):Int))).toArray⟩,.string ⟨(Lib.itoa (h:Int)).toArray⟩,.int .i64 60,.int .i64 180]:=by
 unfold VM uP uT
 simp only[zT,zI]
theorem zqT{n:Int}(h:0<n):0<(Rat.divInt n ((2:Nat):Int)).num:=zaz h (by decide)
theorem ztb{a W h:Nat}(hW:1≤W):uP a≠uT a W h:=fun e=>by
 have h1:Rat.divInt (1:Int) ((2:Nat):Int)=Rat.divInt (2*(W:Int)+1) ((2:Nat):Int):=congrArg P3.y e
 rw[Rat.divInt_eq_div,Rat.divInt_eq_div]at h1
 push_cast at h1
 exact nat_ne hW (by grind)
theorem zmW{n:Int}(h:n.natAbs<1000):Bd 3 (Rat.divInt n ((2:Nat):Int)):=zbQ (by decide) h (by decide)
theorem ztd{a:Nat}(ha:a≤255):B3 3 (uP a):=⟨zdA (by omega) (by decide),zmW (by decide),zl9⟩
theorem ztc{a W h:Nat}(ha:a≤255)(hW:W≤256)(hh:h≤255):B3 3 (uT a W h):=⟨zdA (by omega) (by decide),zmW (by omega),zdA (by omega) (by decide)⟩
theorem zhs{o W h:Nat}(k:TOk o W h)(K:Int)(hK:K=1∨K=6)(a:Nat)(ha:a≤255)(a0:Option Addr)(c0:Nat)(w:World)(hE:Env w)(hv:zf9 w (.slice a0 1 c0) [rT o]) :
  Calls Tryz.prog 20 #[.agg #[.slice a0 1 c0,.slice none 0 0,.slice none 0 0,.slice none 0 0],VM K 60 180 (uP a) (uT a W h)] w fun e w'=>e=.returned (.tuple #[.slice none 0 0,.int .i64 (if K=1 then 0 else 8)])∧Q w w':=by
 have hp:=zsu k.o2
 have HS1:Hid (∀ V,Q w V→Calls Tryz.prog 25 #[.agg #[.slice a0 1 c0]] V fun e w'=>∃ v',e=.returned (.tuple #[v',.int .i64 0])∧Q V w'∧zcS 7 sdC w' v' (rT o)):=LH (fun V hq=>zjG [rT o] hp (by simp) _ V (hv.keep hq))
 have HA:Hid (∀ V,Env V→Q w V→Calls Tryz.prog 26 #[.agg #[.slice a0 1 c0]] V fun e w'=>∃ v',e=.returned (.tuple #[v',.int .i64 0])∧w'.ownsRow V.heap.size 76 5 v' 4 (rowOf frC (zfb [rT o]))∧Q V w'):=LH (fun V hV hq=>zlZ [rT o] hp (by simp) _ V hV (hv.keep hq))
 have hm:MOk K 60 180:=by rcases hK with rfl | rfl <;> exact⟨by decide,by decide,by decide,by decide,by decide,by decide⟩
 have hh:=fun w hw=>zgP (n:=3) K 60 180 hm (uP a) (uT a W h) (ztd ha) (ztc ha k.w2 k.h2) (by decide) (ztb k.w1) w hw
 have hd1:=fun w hw=>zed (a:Rat) (Rat.divInt (1:Int) ((2:Nat):Int)) 0 (zdA (by omega) (by decide)) ((zmW (by decide)).mono (by decide)) w hw
 simp only[zT,zI]at hd1
 rw[uVM]at hh ⊢
 have h48:(za (Rat.divInt (1:Int) ((2:Nat):Int)) == [48])=false:=by
  rw[beq_eq_false_iff_ne,← zI]
  exact fun e=>zc7 (zqT (by decide)) (zav e)
 have HH:=LH hh
 have HD1:=LH hd1
 have HFT:=LH (fun j hj=>zsC (o:Int) j hj)
 have h4:(rT (o:Int)).length=4:=rfl
 clear hp hh hd1 hm hv k
 generalize Lib.itoa (a:Int)=A at *
 generalize za (Rat.divInt (1:Int) ((2:Nat):Int))=LS at *
 generalize za (Rat.divInt (2*(W:Int)+1) ((2:Nat):Int))=WS at *
 generalize Lib.itoa (h:Int)=HS at *
 have BR:=(Blk.new w [.slice a0 1 c0,.slice none 0 0,.slice none 0 0,.slice none 0 0] 29).alloc (.cells #[.int .i64 K,.int .i64 0,.int .i64 (-1),.string ⟨A.toArray⟩,.string ⟨LS.toArray⟩,.string ⟨#[48]⟩,.string ⟨A.toArray⟩,.string ⟨WS.toArray⟩,.string ⟨HS.toArray⟩,.int .i64 60,.int .i64 180] 34)
 have BM:=Blk.new1 w (.cells #[.slice a0 1 c0,.slice none 0 0,.slice none 0 0,.slice none 0 0] 29) [.int .i64 K,.int .i64 0,.int .i64 (-1),.string ⟨A.toArray⟩,.string ⟨LS.toArray⟩,.string ⟨#[48]⟩,.string ⟨A.toArray⟩,.string ⟨WS.toArray⟩,.string ⟨HS.toArray⟩,.int .i64 60,.int .i64 180] 34
 obtain⟨W0,hW0⟩:∃ W0,(w.alloc (.cells #[.slice a0 1 c0,.slice none 0 0,.slice none 0 0,.slice none 0 0] 29)).alloc (.cells #[.int .i64 K,.int .i64 0,.int .i64 (-1),.string ⟨A.toArray⟩,.string ⟨LS.toArray⟩,.string ⟨#[48]⟩,.string ⟨A.toArray⟩,.string ⟨WS.toArray⟩,.string ⟨HS.toArray⟩,.int .i64 60,.int .i64 180] 34)=W0:=⟨_,rfl⟩
 have hq0:Q w W0:=by rw[← hW0];exact bt
 have hEw:=hE.ofQ hq0
 rw[hW0]at BR
 have BM:Blk W0 (w.heap.size+1) [.int .i64 K,.int .i64 0,.int .i64 (-1),.string ⟨A.toArray⟩,.string ⟨LS.toArray⟩,.string ⟨#[48]⟩,.string ⟨A.toArray⟩,.string ⟨WS.toArray⟩,.string ⟨HS.toArray⟩,.int .i64 60,.int .i64 180] 34:=by rw[← hW0];exact BM
 clear hE
 have hE:=hEw
 clear hEw
 rcases hK with rfl | rfl
 case inl =>
  have hQ0:=Q.refl W0
  replace r0:=BR.cell 0
  replace r1:=BR.cell 1
  replace r2:=BR.cell 2
  replace r3:=BR.cell 3
  simp only[zs4,zs5]at r0 r1 r2 r3
  replace lBR:=BR.lt
  replace m0:=BM.cell 0
  replace m1:=BM.cell 1
  replace m2:=BM.cell 2
  replace m3:=BM.cell 3
  replace m4:=BM.cell 4
  replace m5:=BM.cell 5
  replace m6:=BM.cell 6
  replace m7:=BM.cell 7
  replace m8:=BM.cell 8
  replace m9:=BM.cell 9
  replace m10:=BM.cell 10
  simp only[zs4,zs5]at m0 m1 m2 m3 m4 m5 m6 m7 m8 m9 m10
  replace lBM:=BM.lt
  go_enter Tryz.func20,Tryz.ntmps20
  go_wp2_with fail
  clear hW0
  go_wp2_with fail
  refine(HH.out _ (hE.ofQ bt)).mono ?_
  rintro e Y1⟨rfl,hq1⟩
  have hs1:Q W0 Y1:=Q.trans bt hq1
  have hQ1:Q W0 Y1:=Q.trans hQ0 hs1
  replace BR:=BR.keep hs1 BR.lt
  replace r0:=BR.cell 0
  replace r1:=BR.cell 1
  replace r2:=BR.cell 2
  replace r3:=BR.cell 3
  simp only[zs4,zs5]at r0 r1 r2 r3
  replace lBR:=BR.lt
  replace BM:=BM.keep hs1 BM.lt
  replace m0:=BM.cell 0
  replace m1:=BM.cell 1
  replace m2:=BM.cell 2
  replace m3:=BM.cell 3
  replace m4:=BM.cell 4
  replace m5:=BM.cell 5
  replace m6:=BM.cell 6
  replace m7:=BM.cell 7
  replace m8:=BM.cell 8
  replace m9:=BM.cell 9
  replace m10:=BM.cell 10
  simp only[zs4,zs5]at m0 m1 m2 m3 m4 m5 m6 m7 m8 m9 m10
  replace lBM:=BM.lt
  go_wp2_with fail
  refine(HS1.out _ (Q.trans hq0 hQ1)).mono ?_
  rintro e Y2⟨vs,rfl,hq2,hrow⟩
  have hs2:Q Y1 Y2:=Q.trans bt hq2
  have hQ2:Q W0 Y2:=Q.trans hQ1 hs2
  replace BR:=BR.keep hs2 BR.lt
  replace r0:=BR.cell 0
  replace r1:=BR.cell 1
  replace r2:=BR.cell 2
  replace r3:=BR.cell 3
  simp only[zs4,zs5]at r0 r1 r2 r3
  replace lBR:=BR.lt
  replace BM:=BM.keep hs2 BM.lt
  replace m0:=BM.cell 0
  replace m1:=BM.cell 1
  replace m2:=BM.cell 2
  replace m3:=BM.cell 3
  replace m4:=BM.cell 4
  replace m5:=BM.cell 5
  replace m6:=BM.cell 6
  replace m7:=BM.cell 7
  replace m8:=BM.cell 8
  replace m9:=BM.cell 9
  replace m10:=BM.cell 10
  simp only[zs4,zs5]at m0 m1 m2 m3 m4 m5 m6 m7 m8 m9 m10
  replace lBM:=BM.lt
  obtain⟨aa,cap,rfl,-⟩:=id hrow
  rw[h4]
  clear hrow HS1 HH h4
  go_wp2_with fail
  refine(HA.out _ (hE.ofQ bt) (Q.trans hq0 hQ2)).mono ?_
  rintro e Y3⟨vf,rfl,hown,hq3⟩
  have hs3:Q Y2 Y3:=Q.trans bt hq3
  have hQ3:Q W0 Y3:=Q.trans hQ2 hs3
  replace BR:=BR.keep hs3 BR.lt
  replace r0:=BR.cell 0
  replace r1:=BR.cell 1
  replace r2:=BR.cell 2
  replace r3:=BR.cell 3
  simp only[zs4,zs5]at r0 r1 r2 r3
  replace lBR:=BR.lt
  replace BM:=BM.keep hs3 BM.lt
  replace m0:=BM.cell 0
  replace m1:=BM.cell 1
  replace m2:=BM.cell 2
  replace m3:=BM.cell 3
  replace m4:=BM.cell 4
  replace m5:=BM.cell 5
  replace m6:=BM.cell 6
  replace m7:=BM.cell 7
  replace m8:=BM.cell 8
  replace m9:=BM.cell 9
  replace m10:=BM.cell 10
  simp only[zs4,zs5]at m0 m1 m2 m3 m4 m5 m6 m7 m8 m9 m10
  replace lBM:=BM.lt
  obtain⟨g,cp,rfl⟩:=zkk hown (by decide)
  have f0:=hown.cells rfl 0 _ ((HFT.out 0 (by decide)).trans rfl)
  have f1:=hown.cells rfl 1 _ ((HFT.out 1 (by decide)).trans rfl)
  have f2:=hown.cells rfl 2 _ ((HFT.out 2 (by decide)).trans rfl)
  have f3:=hown.cells rfl 3 _ ((HFT.out 3 (by decide)).trans rfl)
  have f4:=hown.cells rfl 4 _ ((HFT.out 4 (by decide)).trans rfl)
  rw[Addr.add_lit]at f0 f1 f2 f3 f4
  clear hown HFT HA
  have hEd:Env Y3.drew:=hE.ofQ (Q.trans hQ3 (Below.drew (Q.refl Y3)))
  go_wp2_with fail
  refine zo 13 rfl (by kernel_rfl) rfl ?_
  refine svp 0 ?_
  refine svp 1 ?_
  refine svq 2 rfl (by intro w' hq;have hc0:=ze hq m1;go_simp;try with_reducible rfl) ?_
  refine svp 3 ?_
  refine svq 4 rfl (by intro w' hq;have hc0:=ze hq f0;have hc1:=ze hq f1;have hc2:=ze hq f2;have hc3:=ze hq f3;have hc4:=ze hq f4;go_simp;try with_reducible rfl) ?_
  refine svp 5 ?_
  refine svq 6 rfl (by intro w' hq;have hc0:=ze hq m3;have hc1:=ze hq m4;have hc2:=ze hq m5;go_simp;try with_reducible rfl) ?_
  refine zh (i:=7) (v:=_) rfl rfl (by kernel_rfl) (by kernel_rfl) (fun _ _ _ h=>h) (by rfl) ?_ (fun w' hq=>HD1.out w' (hEd.ofQ hq)) ?_
  ·(intro w' hq;go_simp;try with_reducible rfl)
  simp only[Act.put,zs1,zs2,zs3]
  refine svp 8 ?_
  refine svp 9 ?_
  refine svp 10 ?_
  refine svp 11 ?_
  refine svp 12 ?_
  refine zi (by kernel_rfl) (fun w3 hq3=>?_)
  simp only[List.drop_succ_cons,List.drop_nil]
  have hQe:=Q.trans hq0 (Q.trans hQ3 (Q.trans (Below.drew (Q.refl Y3)) hq3))
  clear hq3 HD1 hEd f0 f1 f2 f3 f4
  go_wp2
  go_ret2
  exact⟨rfl,hQe⟩
 case inr =>
  have hQ0:=Q.refl W0
  replace r0:=BR.cell 0
  replace r1:=BR.cell 1
  replace r2:=BR.cell 2
  replace r3:=BR.cell 3
  simp only[zs4,zs5]at r0 r1 r2 r3
  replace lBR:=BR.lt
  replace m0:=BM.cell 0
  replace m1:=BM.cell 1
  replace m2:=BM.cell 2
  replace m3:=BM.cell 3
  replace m4:=BM.cell 4
  replace m5:=BM.cell 5
  replace m6:=BM.cell 6
  replace m7:=BM.cell 7
  replace m8:=BM.cell 8
  replace m9:=BM.cell 9
  replace m10:=BM.cell 10
  simp only[zs4,zs5]at m0 m1 m2 m3 m4 m5 m6 m7 m8 m9 m10
  replace lBM:=BM.lt
  go_enter Tryz.func20,Tryz.ntmps20
  go_wp2_with fail
  clear hW0
  go_wp2_with fail
  refine(HH.out _ (hE.ofQ bt)).mono ?_
  rintro e Y1⟨rfl,hq1⟩
  have hs1:Q W0 Y1:=Q.trans bt hq1
  have hQ1:Q W0 Y1:=Q.trans hQ0 hs1
  replace BR:=BR.keep hs1 BR.lt
  replace r0:=BR.cell 0
  replace r1:=BR.cell 1
  replace r2:=BR.cell 2
  replace r3:=BR.cell 3
  simp only[zs4,zs5]at r0 r1 r2 r3
  replace lBR:=BR.lt
  replace BM:=BM.keep hs1 BM.lt
  replace m0:=BM.cell 0
  replace m1:=BM.cell 1
  replace m2:=BM.cell 2
  replace m3:=BM.cell 3
  replace m4:=BM.cell 4
  replace m5:=BM.cell 5
  replace m6:=BM.cell 6
  replace m7:=BM.cell 7
  replace m8:=BM.cell 8
  replace m9:=BM.cell 9
  replace m10:=BM.cell 10
  simp only[zs4,zs5]at m0 m1 m2 m3 m4 m5 m6 m7 m8 m9 m10
  replace lBM:=BM.lt
  go_wp2_with fail
  refine(HS1.out _ (Q.trans hq0 hQ1)).mono ?_
  rintro e Y2⟨vs,rfl,hq2,hrow⟩
  have hs2:Q Y1 Y2:=Q.trans bt hq2
  have hQ2:Q W0 Y2:=Q.trans hQ1 hs2
  replace BR:=BR.keep hs2 BR.lt
  replace r0:=BR.cell 0
  replace r1:=BR.cell 1
  replace r2:=BR.cell 2
  replace r3:=BR.cell 3
  simp only[zs4,zs5]at r0 r1 r2 r3
  replace lBR:=BR.lt
  replace BM:=BM.keep hs2 BM.lt
  replace m0:=BM.cell 0
  replace m1:=BM.cell 1
  replace m2:=BM.cell 2
  replace m3:=BM.cell 3
  replace m4:=BM.cell 4
  replace m5:=BM.cell 5
  replace m6:=BM.cell 6
  replace m7:=BM.cell 7
  replace m8:=BM.cell 8
  replace m9:=BM.cell 9
  replace m10:=BM.cell 10
  simp only[zs4,zs5]at m0 m1 m2 m3 m4 m5 m6 m7 m8 m9 m10
  replace lBM:=BM.lt
  have hQe:=Q.trans hq0 hQ2
  go_wp2
  go_ret2
  exact⟨rfl,hQe⟩
end Go.Proofs.YtbpghkdadajomaaGreatDoor
