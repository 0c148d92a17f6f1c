/-
  The mathematics of timber's sizes: no program.; What the proofs of this seat share: the package-level variables that the code reads, the frame of a call, strings as lists of bytes.; Walks: limbs and small helpers of the packages integer and rational.; Blocks of cells that a call has laid.
-/
import Derived.Test.YtapnkgdnflofbaaGreatDoorCHMA
import Derived.Test.YtapnkgdnflofbaaGreatDoorProg
import Derived.WalkKit
import Derived.WalkSpells
import Derived.WalkLawsBesides
import Derived.WalkSmall
import Derived.Deep.QuietTactic
import Derived.BigQuiet
import Derived.Lib.Hide
import Derived.Lib.LaidTab
import Derived.Lib.ItoaNum
import Derived.IntWalk
set_option maxHeartbeats 400000
namespace Kp
structure Sz where
 k:Int
 w:Int
 d:Int
deriving DecidableEq
def Sz.ok(s:Sz):Prop:=1≤s.k∧s.k≤12∧1≤s.w∧s.w≤1000∧1≤s.d∧s.d≤1000
instance (s:Sz):Decidable s.ok:=by unfold Sz.ok;infer_instance
end Kp
namespace Go.Proofs.YtapnkgdnflofbaaGreatDoor
section
open Go.RowKit Kp
theorem zcH{k:IntKind}{a b:Int}(h:a=b):Ending.returned (.int k a)=.returned (.int k b):=by rw[h]
theorem zbR{α:Type} [BEq α] {a b:α} (h:(a == b)=true):(a != b)=false:=by simp[bne,h]
theorem zaB{α:Type} [BEq α] {a b:α} (h:(a == b)=false):(a != b)=true:=by simp[bne,h]
theorem ztL(l:Str)(k:Nat)(h:k<(⟨l.toArray⟩:ByteArray).size):(⟨l.toArray⟩:ByteArray)[k]=at0 l k:=by
 have h':k<l.length:=h
 rw[zcJ l k h'];rfl
attribute [go_sem] ztL
theorem zqS{a b:ByteArray}(h:a.data.toList=b.data.toList):a=b:=by
 cases a;cases b;simp only at h;congr;exact Array.toList_inj.1 h
theorem zte(l:Str)(k:Nat):(⟨l.toArray⟩:ByteArray).extract k l.length=⟨(zaR l k).toArray⟩:=by
 apply zqS;simp[zaR];exact List.take_of_length_le (by simp)
theorem ztd(l:Str)(k:Nat):(⟨l.toArray⟩:ByteArray).extract 0 k=⟨(zps l k).toArray⟩:=by
 apply zqS;simp[zps]
attribute [go_sem] zte ztd zgy zpr
theorem ztM(a b:Str):(⟨a.toArray⟩:ByteArray)++⟨b.toArray⟩=⟨(a++b).toArray⟩:=by
 apply zqS;simp
attribute [go_sem] ztM
def ng:Nat:=7
def zgC(w:World)(g:Nat)(l:List Str):Prop:=∃ t f,w.heap[g]? = some (.cells (l.map fun s=>Value.string ⟨s.toArray⟩).toArray t f)
def zrM:List Value:=[.bool false,.int .i64 1,.bool true,.int .i64 (-1),.bool false,.int .i64 (-1),.bool true,.int .i64 1]
def zsn(w:World):Prop:=∃ t f,w.heap[1]? = some (.cells zrM.toArray t f)
def zc3:List Str:=[[50],[51],[53],[55],[49,49],[49,51],[49,55],[49,57],[50,51],[50,57],[51,49],[51,55],[52,49],[52,51],[52,55],[53,51],[53,57],[54,49],[54,55],[55,49],[55,51],[55,57],[56,51],[56,57],[57,55]]
structure Env (w:World):Prop where
 size:ng≤w.heap.size
 maxlen:∃ m,w.cell? ⟨6,0,none⟩=some (.int .i64 m)
 pow10 : Lib.TabIs Tryz.prog w "internal/strconv.uint64pow10" .u64 Lib.pow10Tab
 errSyntax : ∃ tp p, w.var? Tryz.prog "strconv.ErrSyntax" = some #[.iface tp p]
 errRange : ∃ tp p, w.var? Tryz.prog "strconv.ErrRange" = some #[.iface tp p]
 primes:zgC w 2 zc3
 dirs:zsn w
theorem zsf : Tryz.prog.globalNamed "internal/strconv.uint64pow10" = some 5 := by kernel_rfl
theorem zjW : Tryz.prog.globalNamed "strconv.ErrSyntax" = some 3 := by kernel_rfl
theorem zme : Tryz.prog.globalNamed "strconv.ErrRange" = some 4 := by kernel_rfl
theorem zgC.below{w w':World}{g B:Nat}{l:List Str}(h:zgC w g l)(b:Below B w w')(hg:g<B):zgC w' g l:=by
 obtain⟨t,f,h⟩:=h
 exact⟨t,f,by rw[b.block g hg];exact h⟩
theorem zgC.cell{w:World}{g:Nat}{l:List Str}(h:zgC w g l)(i:Nat)(hi:i<l.length):w.cell? ⟨g,i,none⟩=some (.string ⟨(l.getD i []).toArray⟩):=by
 obtain⟨t,f,h⟩:=h
 have e:l.getD i []=l[i]:=by rw[List.getD_eq_getElem?_getD,List.getElem?_eq_getElem hi];rfl
 rw[e]
 simp[World.cell?,h,hi]
theorem Env.below{w w' : World}(h : Env w){B : Nat}(hB : ng ≤ B)(b : Below B w w') : Env w' := by
  obtain⟨m, hm⟩ := h.maxlen
  obtain⟨t1, p1, h1⟩ := h.errSyntax
  obtain⟨t2, p2, h2⟩ := h.errRange
  exact
  { size := Nat.le_trans h.size b.size
    maxlen := ⟨m, by rw[b.cell (p := ⟨6, 0, none⟩) (Nat.lt_of_lt_of_le (by decide) hB)];exact hm⟩
    pow10 := var?_below b zsf (Nat.lt_of_lt_of_le (by decide) hB) h.pow10
    errSyntax := ⟨t1, p1, var?_below b zjW (Nat.lt_of_lt_of_le (by decide) hB) h1⟩
    errRange := ⟨t2, p2, var?_below b zme (Nat.lt_of_lt_of_le (by decide) hB) h2⟩
    primes := h.primes.below b (Nat.lt_of_lt_of_le (by decide) hB)
    dirs := by obtain⟨t, f, hp⟩ := h.dirs;exact⟨t, f, by rw[b.block _ (Nat.lt_of_lt_of_le (by decide) hB)];exact hp⟩
 }
abbrev Q(w w':World):Prop:=Below w.heap.size w w'
theorem cx{P:Program}{k:FuncId}{a:Array Value}{u:World}{v:Value}{S:World→Prop}{R:Ending→World→Prop}(h:Calls P k a u fun e w'=>e=.returned v∧S w')(K:∀ w',S w'→R (.returned v) w'):Calls P k a u R:=h.mono fun e w' ⟨he,hs⟩=>by subst he;exact K w' hs
abbrev CR(k:FuncId)(a:Array Value)(w:World)(v:Value):Prop:=Calls Tryz.prog k a w fun e w'=>e=.returned v∧Q w w'
theorem zsA{w W:World}(h:Q w W)(o:Obj):Q w (W.alloc o):=Below.alloc h h.size o
theorem bt{B:Nat}{a w:World}(h:Below B a w:=by repeat (first | exact Below.refl _ _ | assumption | with_reducible refine zsA ?_ _ | refine below_drewN ?_ _ | refine Below.drew ?_ | refine Below.alloc ?_ (by first | (simp;done)|(simp;omega)) _ | refine Below.setCell ?_ (by first | (simp;done)|(simp;omega)) _)):Below B a w:=h
theorem Env.q{w w':World}(h:Env w)(b:Below w.heap.size w w'):Env w':=h.below h.size b
theorem Env.ofQ{w0 w':World}(h:Env w0)(h2:Below w0.heap.size w0 w'):Env w':=h.below h.size h2
theorem Below.drewN{B:Nat}{a w:World}(h:Below B a w)(n:Nat):Below B a (w.drewN n):=by
 exact below_drewN h n
theorem Env.drewN{w:World}(h:Env w)(n:Nat):Env (w.drewN n):=h.q (Below.drewN (Below.refl _ _) n)
theorem Env.drew{w:World}(h:Env w):Env w.drew:=h.q (Below.refl _ _).drew
theorem Env.alloc{w:World}(h:Env w)(o:Obj):Env (w.alloc o):=h.q ((Below.refl _ _).alloc (Nat.le_refl _) o)
theorem zl7(x y c:Int)(w:World)(hx:0≤x)(hx1:x<1000000000)(hy:0≤y)(hy1:y<1000000000)(hc:0≤c)(hc1:c≤1) :
  Calls Tryz.prog 204 #[.int .i64 x,.int .i64 y,.int .i64 c] w fun e w'=>e=.returned (.tuple #[.int .i64 ((x+y+c) % 1000000000),.int .i64 ((x+y+c) / 1000000000)])∧w=w':=by
 go_enter Tryz.func204,Tryz.ntmps204
 go_wp2
 go_ret2
 exact⟨rfl,rfl⟩
theorem zg5(x y c:Int)(w:World)(hx1:x<1000000000)(hy:0≤y)(hc:0≤c)(hn:0≤x - y - c) :
  Calls Tryz.prog 206 #[.int .i64 x,.int .i64 y,.int .i64 c] w fun e w'=>e=.returned (.tuple #[.int .i64 (x - y - c),.int .i64 0])∧w=w':=by
 go_enter Tryz.func206,Tryz.ntmps206
 go_wp2
 go_ret2
 exact⟨rfl,rfl⟩
theorem zg6(x y c:Int)(w:World)(hx:0≤x)(hx1:x<1000000000)(hy:0≤y)(hy1:y<1000000000)(hc:0≤c)(hc1:c≤1)(hn:x - y - c<0) :
  Calls Tryz.prog 206 #[.int .i64 x,.int .i64 y,.int .i64 c] w fun e w'=>e=.returned (.tuple #[.int .i64 (x - y - c+1000000000),.int .i64 1])∧w=w':=by
 go_enter Tryz.func206,Tryz.ntmps206
 go_wp2
 go_ret2
 exact⟨rfl,rfl⟩
def zsm(w:World)(g:Nat)(x y:Value)(wr:World):Prop :=
 ∃ (n:Nat) (p q:Nat),x=.int .i64 p∧y=.int .i64 q∧p≤9223372036854775807∧q≤9223372036854775807∧Nat.gcd p q=g∧wr=w.drewN n
theorem zhV(a b:Nat):Nat.gcd a b=Nat.gcd b (a % b):=by rw[Nat.gcd_comm a b,Nat.gcd_rec b a,Nat.gcd_comm]
theorem zbX(a b:Nat)(w:World)(ha1:a≤9223372036854775807)(hb1:b≤9223372036854775807) :
  Calls Tryz.prog 152 #[.int .i64 a,.int .i64 b] w fun e w'=>e=.returned (.int .i64 (Nat.gcd a b))∧∃ n,w'=w.drewN n:=by
 go_enter Tryz.func152,Tryz.ntmps152
 go_wp2
 go_loopw [0,1] (zsm w (Nat.gcd a b)) (fun _ y _=>(intOf y).toNat)
 case atStart=>exact⟨0,a,b,rfl,rfl,ha1,hb1,rfl,rfl⟩
 case round =>
  obtain⟨n,p,q,rfl,rfl,hp,hq,hg,rfl⟩:=hrel
  have HG:=LH hg;clear hg
  by_cases h0:q=0
  ·subst h0
   go_wp2
   go_ret
   have:=HG.out
   simp at this
   exact⟨by rw[← this];rfl,n,rfl⟩
  ·have hne:((q:Int) == 0)=false:=by simp;omega
   have hm:=Nat.mod_lt p (show 0<q by omega)
   go_wp2
   go_quiet (fail)
   go_wp2
   go_roundw
   case rel=>exact⟨n+nq,q,p % q,rfl,by go_num,by omega,by omega,by rw[← HG.out,zhV p q],by simp⟩
   case measure=>simp[intOf];omega
theorem zaj(s:Str)(w:World)(hl:s.length≤9223372036854775807) :
  Calls Tryz.prog 151 #[.string ⟨s.toArray⟩] w fun e w'=>e=.returned (.tuple #[.int .i64 (zbO s),.string ⟨(zy s).toArray⟩,.bool (zbT s)])∧∃ n,w'=w.drewN n:=by
 go_enter Tryz.func151,Tryz.ntmps151
 go_wp2
 go_loop [5,6] (fun n i=>∃ k:Nat,k≤s.length∧k≤9∧i=.int .i64 k∧n=.int .i64 (nval (s.take k))∧zay (s.take k)) (fun _ i=>9 - (intOf i).toNat)
 case atStart=>exact⟨0,by omega,by omega,rfl,rfl,by simp[zay]⟩
 case round =>
  obtain⟨k,hk,hk9,rfl,rfl,had⟩:=hrel
  have HD:=LH had;clear had
  have hz:=zeH HD.out
  by_cases hgo:k<s.length∧k≤8∧zar (at0 s k)=true
  ·obtain⟨h1,h2,h3⟩:=hgo
   have hd:=(zcC _).1 h3
   have HS:=LH (zfh h1)
   have HN:=LH (HD.out.snoc h1 h3)
   clear h3
   have hp:10 ^ k≤100000000:=by
    have:10 ^ k≤10 ^ 8:=Nat.pow_le_pow_right (by decide) h2
    omega
   go_wp2
   go_round
   case rel=>exact⟨k+1,by omega,by omega,by go_num,by rw[HS.out];go_num,HN.out⟩
   case measure=>simp[intOf];omega
  ·have hstop:k=s.length∨k=9∨zar (at0 s k)=false:=by
    by_cases a:k=s.length
    ·exact .inl a
    ·by_cases b:k=9
     ·exact .inr (.inl b)
     ·exact .inr (.inr (by
       cases hd:zar (at0 s k)with
       | false=>rfl
       | true=>exact absurd ⟨by omega,by omega,hd⟩ hgo))
   clear hgo
   have HP:=LH (ziD HD.out hk hk9 hstop)
   have hcause:(¬ k<s.length)∨(k<s.length∧¬ k≤8)∨(k<s.length∧k≤8∧(at0 s k).toNat<48)∨(k<s.length∧k≤8∧48≤(at0 s k).toNat∧57<(at0 s k).toNat):=by
    rcases hstop with e | e | e
    ·omega
    ·omega
    ·rw[zc6]at e;omega
   clear hstop
   have hres:k=0∨k=9∨(1<k∧k≤8∧((((at0 s 0).toNat:Int) == 48)=true))∨k=1∨(1<k∧k≤8∧((((at0 s 0).toNat:Int) == 48)=false)):=by
    cases ((((at0 s 0).toNat:Int) == 48))with
    | true=>simp;omega
    | false=>simp;omega
   have hk64:(0:Int)≤k:=by omega
   have hkl:(k:Int)≤s.length:=by omega
   have hcl:s.length=0∨0<s.length:=by omega
   have hres2:(Hid (zbT s=false∧zbO s=0∧zy s=[])∧(k=0∨k=9∨(1<k∧k≤8∧((((at0 s 0).toNat:Int) == 48)=true)))) ∨
     (Hid (zbT s=true∧zbO s=nval (s.take k)∧zy s=s.drop k)∧(k=1∨(1<k∧k≤8∧((((at0 s 0).toNat:Int) == 48)=false)))):=by
    rcases hres with h | h | h | h | h
    ·exact .inl ⟨zkI HP.out (.inl h),.inl h⟩
    ·exact .inl ⟨zkI HP.out (by omega),.inr (.inl h)⟩
    ·exact .inl ⟨zkI HP.out (.inr (.inr ⟨h.1,by have:=h.2.2;rw[zmA]at this;simpa using this⟩)),.inr (.inr h)⟩
    ·exact .inr ⟨zkH HP.out (by omega) (by omega) (.inl h),.inl h⟩
    ·exact .inr ⟨zkH HP.out (by omega) (by omega) (.inr (by have:=h.2.2;rw[zmA]at this;simpa using this)),.inr h⟩
   clear hres
   rcases hres2 with⟨HF,hr⟩|⟨HF,hr⟩
   ·rcases hcause with hc | ⟨hc,hc2⟩|⟨hc,hc2,hc3⟩|⟨hc,hc2,hc3,hc4⟩ <;> rcases hr with rfl | rfl | ⟨hr,hr2,hr3⟩
    all_goals first
     | (exfalso;omega)
     | (go_wp2;go_ret3;obtain⟨a,b,c⟩:=HF.out;exact⟨by rw[a,b,c];rfl,0,rfl⟩)
   ·rcases hcause with hc | ⟨hc,hc2⟩|⟨hc,hc2,hc3⟩|⟨hc,hc2,hc3,hc4⟩ <;> rcases hr with rfl | ⟨hr,hr2,hr3⟩
    all_goals first
     | (exfalso;omega)
     | (go_wp2;go_quiet (fail);go_wp2;go_ret3;obtain⟨a,b,c⟩:=HF.out;exact⟨by rw[a,b,c];rfl,nq,rfl⟩)
     | (have hb0:((k:Int) == 0)=false:=(by simp;omega);have hb8:decide (8<(k:Int))=false:=(by simp;omega);go_wp2;go_quiet (fail);go_wp2;go_ret3;obtain⟨a,b,c⟩:=HF.out;exact⟨by rw[a,b,c];rfl,nq,rfl⟩)
def Blk(w:World)(b:Nat)(cs:List Value)(t:TypeId):Prop:=w.heap[b]? = some (.cells cs.toArray t (0,0))
theorem Blk.new(w:World)(cs:List Value)(t:TypeId):Blk (w.alloc (.cells cs.toArray t)) w.heap.size cs t:=heap_alloc_new w _
theorem Blk.keep{w w':World}{b B:Nat}{cs:List Value}{t:TypeId}(h:Blk w b cs t)(hb:Below B w w')(hB:b<B):Blk w' b cs t:=by
 unfold Blk;rw[hb.block b hB];exact h
theorem Blk.lt{w:World}{b:Nat}{cs:List Value}{t:TypeId}(h:Blk w b cs t):b<w.heap.size:=(Array.getElem?_eq_some_iff.1 h).1
theorem Blk.cell{w:World}{b:Nat}{cs:List Value}{t:TypeId}(h:Blk w b cs t)(i:Nat):w.cell? ⟨b,i,none⟩=cs[i]?:=by
 unfold Blk at h;simp[World.cell?,h]
theorem Blk.frozen{w:World}{b:Nat}{cs:List Value}{t:TypeId}(h:Blk w b cs t)(i:Nat):w.frozen? ⟨b,i,none⟩=false:=by
 unfold Blk at h;simp[World.frozen?,h]
theorem Blk.alloc{w:World}{b:Nat}{cs:List Value}{t:TypeId}(h:Blk w b cs t)(o:Obj):Blk (w.alloc o) b cs t:=by
 unfold Blk;rw[Below.heap_alloc w o b h.lt];exact h
theorem Blk.drewN{w:World}{b:Nat}{cs:List Value}{t:TypeId}(h:Blk w b cs t)(n:Nat):Blk (w.drewN n) b cs t:=h
theorem Blk.drew{w:World}{b:Nat}{cs:List Value}{t:TypeId}(h:Blk w b cs t):Blk w.drew b cs t:=h
theorem Blk.set{w:World}{b:Nat}{cs:List Value}{t:TypeId}(h:Blk w b cs t)(i:Nat)(v:Value):Blk (w.setCell ⟨b,i,none⟩ v) b (cs.set i v) t:=by
 unfold Blk at *;simp[World.setCell,Array.getElem?_modify,h]
theorem Blk.setOther{w:World}{b b':Nat}{cs:List Value}{t:TypeId}(h:Blk w b cs t)(hne:b'≠b)(i:Nat)(v:Value):Blk (w.setCell ⟨b',i,none⟩ v) b cs t:=by
 unfold Blk at *;simp[World.setCell,Array.getElem?_modify,h,hne]
theorem zi{w w':World}{base size n:Nat}{e:TypeId}{v:Value}{xs:List Value}(h:w.ownsRow base e size v n xs)(hb:Below w.heap.size w w'):w'.ownsRow base e size v n xs:=by
 refine⟨h.1,h.2.elim Or.inl ?_⟩
 rintro⟨g,cap,cur,hv,hg,hc,r⟩
 exact Or.inr ⟨g,cap,cur,hv,hg,(hb.block g (Array.getElem?_eq_some_iff.1 hc).1).trans hc,r⟩
theorem Blk.new1(w:World)(o:Obj)(cs:List Value)(t:TypeId):Blk ((w.alloc o).alloc (.cells cs.toArray t)) (w.heap.size+1) cs t:=by
 have h:=Blk.new (w.alloc o) cs t
 rwa[World.size_alloc]at h
theorem Blk.new2(w:World)(o o':Obj)(cs:List Value)(t:TypeId):Blk (((w.alloc o).alloc o').alloc (.cells cs.toArray t)) (w.heap.size+2) cs t:=by
 have h:=Blk.new ((w.alloc o).alloc o') cs t
 rwa[World.size_alloc,World.size_alloc]at h
end
end Go.Proofs.YtapnkgdnflofbaaGreatDoor
