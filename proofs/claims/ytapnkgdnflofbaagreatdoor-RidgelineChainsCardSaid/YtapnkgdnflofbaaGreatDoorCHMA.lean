/-
  Num Limb Arith Div Int Rat Nat LibM, one behind the other.
-/
import Derived.Lib.ItoaNum
import Derived.Lib.AtoiAll
import Derived.Lib.IndexMore
import Derived.Lib.SlTrimSet
import Derived.Lib.Strings
import Derived.Lib.AtoiTie
import Derived.Lib.Hide
namespace Kp
theorem zs1{α : Type}(l : List α)(i : Nat)(a : α) : l.toArray.setIfInBounds i a = (l.set i a).toArray := List.setIfInBounds_toArray l i a
theorem zs2{α : Type}(a b : α)(l : List α) : (a :: l).set 0 b = b :: l := rfl
theorem zs3{α : Type}(a b : α)(l : List α)(n : Nat) : (a :: l).set (n + 1) b = a :: l.set n b := rfl
theorem zs4{α : Type}(a : α)(l : List α) : (a :: l)[0]? = some a := rfl
theorem zs5{α : Type}(a : α)(l : List α)(i : Nat) : (a :: l)[i + 1]? = l[i]? := rfl
theorem LH{p : Prop}(h : p) : Go.RowKit.Hid p := h
end Kp
namespace Kp
open Go.Lib (decDigits itoa nDigits)
abbrev Str:=List UInt8
def at0(s:Str)(k:Nat):UInt8:=s.getD k 0
theorem zcJ(s:Str)(k:Nat)(h:k<s.length):at0 s k=s[k]:=by
 unfold at0;rw[List.getD_eq_getElem?_getD,List.getElem?_eq_getElem h];rfl
def zaR(s:Str)(k:Nat):Str:=s.drop k
def zps(s:Str)(k:Nat):Str:=s.take k
theorem zgy(s:Str)(k:Nat):(zaR s k).length=s.length - k:=by simp[zaR]
theorem zpr(s:Str)(k:Nat):(zps s k).length=min k s.length:=by simp[zps]
def nth(l:List Int)(k:Nat):Int:=l.getD k 0
def zar(c:UInt8):Bool:=decide (48≤c.toNat) && decide (c.toNat≤57)
def zfE:Str→Nat→Nat
 | [],n=>n
 | c::r,n=>zfE r (10*n+(c.toNat - 48))
def nval(l:Str):Nat:=zfE l 0
theorem zlJ(l m:Str):∀ n,zfE (l++m) n=zfE m (zfE l n):=by
 induction l with
 | nil=>intro n;rfl
 | cons c r ih=>intro n;exact ih _
theorem zrq(l:Str):∀ n,zfE l n=n*10 ^ l.length+nval l:=by
 induction l with
 | nil=>intro n;simp[zfE,nval]
 | cons c r ih =>
  intro n
  simp only[zfE,nval,List.length_cons]
  rw[ih,ih (10*0+(c.toNat - 48)),Nat.pow_succ]
  rw[Nat.add_mul,Nat.add_mul]
  simp only[Nat.mul_zero,Nat.zero_mul,Nat.zero_add]
  rw[Nat.mul_comm 10 n,Nat.mul_assoc,Nat.mul_comm 10 (10 ^ r.length)]
  omega
theorem zd7(l m:Str):nval (l++m)=nval l*10 ^ m.length+nval m:=by
 unfold nval;rw[zlJ,zrq];rfl
theorem zix(l:Str)(c:UInt8):nval (l++[c])=10*nval l+(c.toNat - 48):=by
 rw[zd7];simp[nval,zfE];omega
theorem zeI(c:UInt8)(l:Str):nval (c::l)=(c.toNat - 48)*10 ^ l.length+nval l:=by
 rw[show c::l=[c]++l from rfl,zd7];simp[nval,zfE]
theorem ziy:∀ (l:Str),(∀ c∈l,zar c=true)→nval l<10 ^ l.length
 | [],_=>by simp[nval,zfE]
 | c::r,h=>by
  have h1:=ziy r (fun x hx=>h x (by simp[hx]))
  have h2:=h c (by simp)
  simp only[zar,Bool.and_eq_true,decide_eq_true_eq]at h2
  rw[zeI,List.length_cons,Nat.pow_succ]
  have:(c.toNat - 48)*10 ^ r.length≤9*10 ^ r.length:=Nat.mul_le_mul_right _ (by omega)
  omega
theorem zcq{k:Nat}(h:k<10):(UInt8.ofNat (48+k)).toNat=48+k:=by
 simp[UInt8.toNat_ofNat'];omega
theorem zY(n:Nat):∀ c∈decDigits n,zar c=true:=by
 induction n using Nat.strongRecOn with
 | _ n ih =>
  intro c hc
  rw[decDigits]at hc
  split at hc
  ·next h =>
   simp only[List.mem_singleton]at hc;subst hc
   simp only[zar,zcq h];simp;omega
  ·next h =>
   simp only[List.mem_append,List.mem_singleton]at hc
   rcases hc with hc | hc
   ·exact ih (n / 10) (by omega) c hc
   ·subst hc
    simp only[zar,zcq (show n % 10<10 by omega)];simp;omega
theorem z8(n:Nat):nval (decDigits n)=n:=by
 induction n using Nat.strongRecOn with
 | _ n ih =>
  rw[decDigits]
  split
  ·next h=>simp[nval,zfE];omega
  ·next h =>
   rw[zix,ih (n / 10) (by omega),zcq (show n % 10<10 by omega)];omega
theorem zat(n:Nat):decDigits n≠[]:=by
 rw[decDigits];split <;> simp
theorem head?_app{α:Type}(l m:List α)(h:l≠[]):(l++m).head? = l.head?:=by
 cases l with
 | nil=>exact absurd rfl h
 | cons a t=>rfl
theorem zdB(n:Nat)(h:0<n):(decDigits n).head?≠some 48:=by
 induction n using Nat.strongRecOn with
 | _ n ih =>
  rw[decDigits]
  split
  ·next h10 =>
   intro e
   simp only[List.head?_cons,Option.some.injEq]at e
   have:=congrArg UInt8.toNat e
   rw[zcq h10]at this
   simp at this;omega
  ·next h10 =>
   rw[head?_app _ _ (zat _)]
   exact ih _ (by omega) (by omega)
theorem zbL:∀ (l:Str),l≠[]→(∀ c∈l,zar c=true)→(l.head? = some 48→l=[48])→decDigits (nval l)=l:=by
 intro l
 induction hn:l.length using Nat.strongRecOn generalizing l with
 | _ n ih =>
  intro hne hd hz
  obtain⟨m,c,rfl⟩:∃ m c,l=m++[c]:=⟨l.dropLast,l.getLast hne,(List.dropLast_concat_getLast hne).symm⟩
  have hc:=hd c (by simp)
  simp only[zar,Bool.and_eq_true,decide_eq_true_eq]at hc
  rw[zix]
  by_cases hm:m=[]
  ·subst hm
   rw[show 10*nval []+(c.toNat - 48)=c.toNat - 48 by simp[nval,zfE]]
   rw[decDigits,dif_pos (by omega)]
   simp only[List.nil_append,List.cons.injEq,and_true]
   apply UInt8.toNat_inj.1;rw[zcq (by omega)];omega
  ·have hm0:m.head?≠some 48:=by
    intro e
    have:=hz (by rw[head?_app _ _ hm];exact e)
    cases m with
    | nil=>exact hm rfl
    | cons a t=>simp at this
   have hpos:0<nval m:=by
    cases m with
    | nil=>exact absurd rfl hm
    | cons a t =>
     rw[zeI]
     have ha:=hd a (by simp)
     simp only[zar,Bool.and_eq_true,decide_eq_true_eq]at ha
     have:a.toNat≠48:=by
      intro e;apply hm0;simp only[List.head?_cons];congr 1;apply UInt8.toNat_inj.1;simp[e]
     have:0<(a.toNat - 48)*10 ^ t.length:=Nat.mul_pos (by omega) (Nat.pow_pos (by decide))
     omega
   rw[decDigits,dif_neg (by omega)]
   rw[show (10*nval m+(c.toNat - 48)) / 10=nval m by omega,show (10*nval m+(c.toNat - 48)) % 10=c.toNat - 48 by omega]
   rw[ih m.length (by simp at hn;omega) m rfl hm (fun x hx=>hd x (by simp[hx])) (fun e=>absurd e hm0)]
   congr 1
   simp only[List.cons.injEq,and_true]
   apply UInt8.toNat_inj.1;rw[zcq (by omega)];omega
theorem zm(n k:Nat)(hk:0<k):(decDigits n).length≤k ↔ n<10 ^ k:=by
 rw[Go.Lib.decDigits_length]
 constructor
 ·intro h
  exact Nat.lt_of_lt_of_le (Go.Lib.lt_pow_nDigits n) (Nat.pow_le_pow_right (by decide) h)
 ·intro h
  induction k generalizing n with
  | zero=>omega
  | succ k ih =>
   by_cases h10:n<10
   ·rw[Go.Lib.nDigits_small h10];omega
   ·rw[Go.Lib.nDigits_big h10]
    rw[Nat.pow_succ]at h
    by_cases hk0:k=0
    ·subst hk0;simp at h;omega
    ·have:=ih (n / 10) (by omega) (by omega);omega
end Kp
namespace Kp
def lval(B:Int):List Int→Int
 | []=>0
 | x::r=>x+B*lval B r
def Dig(B:Int)(l:List Int):Prop:=∀ x∈l,0≤x∧x<B
theorem ze6{n B:Int}(hn:0<n)(hB:2≤B):n / B<n :=
 Int.ediv_lt_of_lt_mul (by omega) (by
  have:n*2≤n*B:=Int.mul_le_mul_of_nonneg_left hB (by omega)
  omega)
def limbs(B n:Int):List Int:=if _h:n≤0∨B<2 then []else n % B::limbs B (n / B)
termination_by n.toNat
decreasing_by
 have h1:0<n:=by omega
 have h2:2≤B:=by omega
 have h3:=ze6 h1 h2
 omega
theorem zaL{B n:Int}(h:n≤0):limbs B n=[]:=by rw[limbs,dif_pos (Or.inl h)]
theorem zbz{B n:Int}(hB:2≤B)(h:0<n):limbs B n=n % B::limbs B (n / B):=by rw[limbs,dif_neg (by omega)]
theorem Dig.nil{B:Int}:Dig B []:=by intro x hx;cases hx
theorem Dig.cons{B x:Int}{l:List Int}(h0:0≤x)(h1:x<B)(h:Dig B l):Dig B (x::l):=by
 intro y hy
 rcases List.mem_cons.1 hy with rfl | hy
 ·exact⟨h0,h1⟩
 ·exact h y hy
theorem Dig.append{B:Int}{l m:List Int}(h:Dig B l)(k:Dig B m):Dig B (l++m):=by
 intro x hx
 rcases List.mem_append.1 hx with hx | hx
 ·exact h x hx
 ·exact k x hx
theorem Dig.one{B x:Int}(h0:0≤x)(h1:x<B):Dig B [x]:=Dig.cons h0 h1 Dig.nil
theorem Dig.take{B:Int}{l:List Int}(h:Dig B l)(k:Nat):Dig B (l.take k):=fun x hx=>h x (List.mem_of_mem_take hx)
theorem Dig.drop{B:Int}{l:List Int}(h:Dig B l)(k:Nat):Dig B (l.drop k):=fun x hx=>h x (List.mem_of_mem_drop hx)
theorem Dig.get{B:Int}{l:List Int}(h:Dig B l)(hB:0<B)(k:Nat):0≤l.getD k 0∧l.getD k 0<B:=by
 by_cases hk:k<l.length
 ·rw[List.getD_eq_getElem?_getD,List.getElem?_eq_getElem hk]
  exact h _ (List.getElem_mem hk)
 ·rw[List.getD_eq_getElem?_getD,List.getElem?_eq_none (by omega)]
  exact⟨Int.le_refl 0,hB⟩
theorem zc5(B:Int)(l m:List Int):lval B (l++m)=lval B l+B ^ l.length*lval B m:=by
 induction l with
 | nil=>simp[lval]
 | cons x r ih =>
  simp only[List.cons_append,lval,ih,List.length_cons,Int.pow_succ]
  rw[Int.mul_add,Int.mul_comm (B ^ r.length) B,Int.mul_assoc]
  omega
theorem zgj(B:Int)(l:List Int)(x:Int):lval B (l++[x])=lval B l+B ^ l.length*x:=by
 rw[zc5];simp[lval]
theorem zdq{l:List Int}{k:Nat}(h:k<l.length):l.take (k+1)=l.take k++[l.getD k 0]:=by
 rw[List.take_succ_eq_append_getElem h,List.getD_eq_getElem?_getD,List.getElem?_eq_getElem h];rfl
theorem zN(B:Int)(l:List Int)(k:Nat):lval B (l.take (k+1))=lval B (l.take k)+B ^ k*l.getD k 0:=by
 by_cases h:k<l.length
 ·rw[zdq h,zgj,List.length_take,Nat.min_eq_left (by omega)]
 ·rw[List.take_of_length_le (by omega),List.take_of_length_le (by omega),List.getD_eq_getElem?_getD,List.getElem?_eq_none (by omega)]
  simp
theorem zM{B:Int}(hB:0≤B):∀ {l:List Int},Dig B l→0≤lval B l
 | [],_=>Int.le_refl 0
 | x::r,h=>by
  have h1:=zM hB (l:=r) (fun y hy=>h y (by simp[hy]))
  have h2:=h x (by simp)
  have h3:0≤B*lval B r:=Int.mul_nonneg hB h1
  simp only[lval];omega
theorem zbh{B:Int}(hB:0<B):∀ {l:List Int},Dig B l→lval B l<B ^ l.length
 | [],_=>by simp[lval]
 | x::r,h=>by
  have h1:=zbh hB (l:=r) (fun y hy=>h y (by simp[hy]))
  have h2:=h x (by simp)
  have h3:B*(lval B r+1)≤B*B ^ r.length:=Int.mul_le_mul_of_nonneg_left (by omega) (by omega)
  rw[Int.mul_add]at h3
  simp only[lval,List.length_cons,Int.pow_succ]
  rw[Int.mul_comm (B ^ r.length) B];omega
theorem zQ{B:Int}(hB:2≤B)(n:Int):Dig B (limbs B n):=by
 generalize hk:n.toNat=k
 induction k using Nat.strongRecOn generalizing n with
 | _ k ih =>
  by_cases h:n≤0
  ·rw[zaL h];exact Dig.nil
  ·rw[zbz hB (by omega)]
   have:=ze6 (show 0<n by omega) hB
   exact Dig.cons (Int.emod_nonneg _ (by omega)) (Int.emod_lt_of_pos _ (by omega)) (ih (n / B).toNat (by omega) (n / B) rfl)
theorem zG{B:Int}(hB:2≤B)(n:Int)(hn:0≤n):lval B (limbs B n)=n:=by
 generalize hk:n.toNat=k
 induction k using Nat.strongRecOn generalizing n with
 | _ k ih =>
  by_cases h:n≤0
  ·rw[zaL h];simp[lval];omega
  ·rw[zbz hB (by omega)]
   have:=ze6 (show 0<n by omega) hB
   simp only[lval]
   rw[ih (n / B).toNat (by omega) (n / B) (Int.ediv_nonneg hn (by omega)) rfl]
   have:=Int.emod_add_mul_ediv n B
   omega
theorem zeL{B:Int}(hB:2≤B):∀ (l:List Int),Dig B l→l.getLast?≠some 0→limbs B (lval B l)=l
 | [],_,_=>zaL (Int.le_refl 0)
 | x::r,h,hl=>by
  have hx:=h x (by simp)
  have hr:Dig B r:=fun y hy=>h y (by simp[hy])
  have hr0:=zM (by omega) hr
  have hlr:r.getLast?≠some 0:=by
   cases r with
   | nil=>simp
   | cons y t=>rw[List.getLast?_cons_cons]at hl;exact hl
  have ih:=zeL hB r hr hlr
  have hpos:0<lval B (x::r):=by
   simp only[lval]
   cases r with
   | nil =>
    simp only[List.getLast?_singleton,ne_eq,Option.some.injEq]at hl
    simp[lval];omega
   | cons y t =>
    have:lval B (y::t)≠0:=by
     intro e;rw[e,zaL (Int.le_refl 0)]at ih;cases ih
    have:B*1≤B*lval B (y::t):=Int.mul_le_mul_of_nonneg_left (by omega) (by omega)
    omega
  rw[zbz hB hpos]
  simp only[lval]
  rw[Int.add_mul_emod_self_left,Int.add_mul_ediv_left _ _ (by omega),Int.emod_eq_of_lt hx.1 hx.2,Int.ediv_eq_zero_of_lt hx.1 hx.2,Int.zero_add,ih]
theorem zjQ{B:Int}(hB:2≤B)(n:Int):(limbs B n).getLast?≠some 0:=by
 generalize hk:n.toNat=k
 induction k using Nat.strongRecOn generalizing n with
 | _ k ih =>
  by_cases h:n≤0
  ·rw[zaL h];simp
  ·rw[zbz hB (by omega)]
   have:=ze6 (show 0<n by omega) hB
   have i:=ih (n / B).toNat (by omega) (n / B) rfl
   by_cases h2:n / B≤0
   ·rw[zaL h2]
    have h3:=Int.emod_add_mul_ediv n B
    have h4:=Int.ediv_nonneg (show 0≤n by omega) (show 0≤B by omega)
    have h5:n / B=0:=by omega
    rw[h5]at h3
    simp only[List.getLast?_singleton,ne_eq,Option.some.injEq]
    omega
   ·rw[zbz hB (by omega)]at i ⊢
    rw[List.getLast?_cons_cons];exact i
theorem zbZ{B:Int}(hB:2≤B)(k:Nat):∀ (n:Int),n<B ^ k→(limbs B n).length≤k:=by
 induction k with
 | zero=>intro n h;rw[zaL (by simpa using Int.lt_add_one_iff.1 (by simpa using h))];simp
 | succ k ih =>
  intro n h
  by_cases h0:n≤0
  ·rw[zaL h0];simp
  ·rw[zbz hB (by omega)]
   have:=ih (n / B) (Int.ediv_lt_of_lt_mul (by omega) (by rw[← Int.pow_succ];exact h))
   simp only[List.length_cons];omega
theorem zbu{B:Int}(hB:0<B)(k:Nat):0<B ^ k:=Int.pow_pos hB
theorem zbv{B:Int}(hB:1≤B){j k:Nat}(h:j≤k):B ^ j≤B ^ k:=by
 obtain⟨d,rfl⟩:=Nat.exists_eq_add_of_le h
 rw[Int.pow_add]
 have h1:0<B ^ j:=Int.pow_pos (by omega)
 have h2:0<B ^ d:=Int.pow_pos (by omega)
 have:=Int.mul_le_mul_of_nonneg_left (show (1:Int)≤B ^ d by omega) (show 0≤B ^ j by omega)
 omega
theorem zbA{B:Int}(hB:2≤B)(n:Int)(hn:0≤n)(k:Nat)(h:(limbs B n).length≤k):n<B ^ k:=by
 have h1:=zbh (by omega) (zQ hB n)
 rw[zG hB n hn]at h1
 have h2:B ^ (limbs B n).length≤B ^ k:=zbv (by omega) h
 omega
def zaJ:List Int→List Int
 | []=>[]
 | x::r=>if x=0∧zaJ r=[]then []else x::zaJ r
theorem zjN(B:Int):∀ l,lval B (zaJ l)=lval B l
 | []=>rfl
 | x::r=>by
  have ih:=zjN B r
  simp only[zaJ]
  split
  ·next h=>rw[h.2]at ih;simp only[lval]at *;rw[← ih,h.1];simp
  ·simp only[lval,ih]
theorem zlR{B:Int}:∀ {l},Dig B l→Dig B (zaJ l)
 | [],h=>h
 | x::r,h=>by
  have ih:=zlR (l:=r) (fun y hy=>h y (by simp[hy]))
  have hx:=h x (by simp)
  simp only[zaJ]
  split
  ·exact Dig.nil
  ·exact Dig.cons hx.1 hx.2 ih
theorem zjO:∀ l,(zaJ l).getLast?≠some 0
 | []=>by simp[zaJ]
 | x::r=>by
  have ih:=zjO r
  simp only[zaJ]
  split
  ·simp
  ·next h =>
   cases hr:zaJ r with
   | nil=>rw[hr]at h;simp only[and_true]at h;simp[h]
   | cons y t=>rw[hr]at ih;rw[List.getLast?_cons_cons];exact ih
theorem zdi{B:Int}(hB:2≤B){l:List Int}(h:Dig B l):zaJ l=limbs B (lval B l):=by
 rw[← zjN B l,zeL hB _ (zlR h) (zjO l)]
theorem ziG(l:List Int):zaJ (l++[0])=zaJ l:=by
 induction l with
 | nil=>simp[zaJ]
 | cons x r ih=>simp only[List.cons_append,zaJ,ih]
theorem zo0(l:List Int)(x:Int)(h:x≠0):zaJ (l++[x])=l++[x]:=by
 induction l with
 | nil=>simp[zaJ,h]
 | cons y r ih=>simp[List.cons_append,zaJ,ih]
end Kp
namespace Kp
structure PlusInv (B:Int) (a b:List Int) (i:Nat) (o:List Int) (c:Int):Prop where
 len:o.length=i
 dig:Dig B o
 c0:0≤c
 c1:c≤1
 val:lval B o+B ^ i*c=lval B (a.take i)+lval B (b.take i)
theorem PlusInv.start(B:Int)(a b:List Int):PlusInv B a b 0 [] 0:=⟨rfl,Dig.nil,by omega,by omega,by simp[lval]⟩
theorem PlusInv.step{B:Int}(hB:2≤B){a b:List Int}(ha:Dig B a)(hb:Dig B b){i:Nat}{o:List Int}{c:Int}(h:PlusInv B a b i o c) :
  PlusInv B a b (i+1) (o++[(a.getD i 0+b.getD i 0+c) % B]) ((a.getD i 0+b.getD i 0+c) / B):=by
 have h1:=ha.get (by omega) i
 have h2:=hb.get (by omega) i
 have hc0:=h.c0
 have hc1:=h.c1
 have hm:=Int.emod_add_mul_ediv (a.getD i 0+b.getD i 0+c) B
 have hm0:=Int.emod_nonneg (a.getD i 0+b.getD i 0+c) (show B≠0 by omega)
 have hm1:=Int.emod_lt_of_pos (a.getD i 0+b.getD i 0+c) (show 0<B by omega)
 refine⟨by simp[h.len],h.dig.append (Dig.one hm0 hm1),Int.ediv_nonneg (by omega) (by omega),?_,?_⟩
 ·have:(a.getD i 0+b.getD i 0+c) / B<2:=Int.ediv_lt_of_lt_mul (by omega) (by omega)
  omega
 ·rw[zgj,zN,zN,h.len,Int.pow_succ]
  have hv:=h.val
  generalize a.getD i 0=x at *
  generalize b.getD i 0=y at *
  generalize (x+y+c) % B=m at *
  generalize (x+y+c) / B=d at *
  have:m+B*d=x+y+c:=hm
  grind
theorem PlusInv.done{B:Int}(hB:2≤B){a b:List Int}(ha:Dig B a)(hb:Dig B b){i:Nat}{o:List Int}{c:Int}(h:PlusInv B a b i o c)
  (hla:a.length<i)(hlb:b.length<i):zaJ o=limbs B (lval B a+lval B b):=by
 have hv:=h.val
 rw[List.take_of_length_le (by omega),List.take_of_length_le (by omega)]at hv
 have h1:=zbh (by omega) ha
 have h2:=zbh (by omega) hb
 have h3:=zbv (show 1≤B by omega) (show a.length≤i - 1 by omega)
 have h4:=zbv (show 1≤B by omega) (show b.length≤i - 1 by omega)
 have h5:B ^ i=B ^ (i - 1)*B:=by rw[← Int.pow_succ];congr 1;omega
 have h6:B ^ (i - 1)*2≤B ^ (i - 1)*B:=Int.mul_le_mul_of_nonneg_left hB (Int.le_of_lt (zbu (by omega) _))
 have h7:=zM (show 0≤B by omega) h.dig
 have hc:c=0:=by
  have hc0:=h.c0;have hc1:=h.c1
  by_cases e:c=1
  ·subst e;omega
  ·omega
 subst hc
 rw[zdi hB h.dig];congr 1;omega
structure MinusInv (B:Int) (a b:List Int) (i:Nat) (o:List Int) (c:Int):Prop where
 len:o.length=i
 dig:Dig B o
 c0:0≤c
 c1:c≤1
 val:lval B o=lval B (a.take i) - lval B (b.take i)+B ^ i*c
theorem MinusInv.start(B:Int)(a b:List Int):MinusInv B a b 0 [] 0:=⟨rfl,Dig.nil,by omega,by omega,by simp[lval]⟩
theorem MinusInv.stepPos{B:Int}(hB:2≤B){a b:List Int}(ha:Dig B a)(hb:Dig B b){i:Nat}{o:List Int}{c:Int}(h:MinusInv B a b i o c)
  (hn:0≤a.getD i 0 - b.getD i 0 - c):MinusInv B a b (i+1) (o++[a.getD i 0 - b.getD i 0 - c]) 0:=by
 have h1:=ha.get (by omega) i
 have h2:=hb.get (by omega) i
 have hc0:=h.c0
 refine⟨by simp[h.len],h.dig.append (Dig.one hn (by omega)),by omega,by omega,?_⟩
 rw[zgj,zN,zN,h.len,Int.pow_succ]
 have hv:=h.val
 grind
theorem MinusInv.stepNeg{B:Int}(hB:2≤B){a b:List Int}(ha:Dig B a)(hb:Dig B b){i:Nat}{o:List Int}{c:Int}(h:MinusInv B a b i o c)
  (hn:a.getD i 0 - b.getD i 0 - c<0):MinusInv B a b (i+1) (o++[a.getD i 0 - b.getD i 0 - c+B]) 1:=by
 have h1:=ha.get (by omega) i
 have h2:=hb.get (by omega) i
 have hc1:=h.c1
 refine⟨by simp[h.len],h.dig.append (Dig.one (by omega) (by omega)),by omega,by omega,?_⟩
 rw[zgj,zN,zN,h.len,Int.pow_succ]
 have hv:=h.val
 grind
theorem MinusInv.done{B:Int}(hB:2≤B){a b:List Int}(hle:lval B b≤lval B a){i:Nat}{o:List Int}{c:Int}(h:MinusInv B a b i o c)
  (hla:a.length≤i)(hlb:b.length≤i):zaJ o=limbs B (lval B a - lval B b):=by
 have hv:=h.val
 rw[List.take_of_length_le (by omega),List.take_of_length_le (by omega)]at hv
 have h2:=zbh (by omega) h.dig
 rw[h.len]at h2
 have hc:c=0:=by
  have hc0:=h.c0;have hc1:=h.c1
  by_cases e:c=1
  ·subst e;omega
  ·omega
 subst hc
 rw[zdi hB h.dig];congr 1;omega
theorem zeK{B:Int}(hB:2≤B){a b:List Int}(ha:Dig B a)(hb:Dig B b){i:Nat}(hl:a.length=b.length)(hi:i<a.length)
  (he:a.drop (i+1)=b.drop (i+1))(hlt:a.getD i 0<b.getD i 0):lval B a<lval B b:=by
 have e1:a=a.take i++(a.getD i 0::a.drop (i+1)):=by
  rw[List.getD_eq_getElem?_getD,List.getElem?_eq_getElem hi,Option.getD_some,← List.drop_eq_getElem_cons,List.take_append_drop]
 have e2:b=b.take i++(b.getD i 0::b.drop (i+1)):=by
  rw[List.getD_eq_getElem?_getD,List.getElem?_eq_getElem (by omega),Option.getD_some,← List.drop_eq_getElem_cons,List.take_append_drop]
 rw[e1,e2,zc5,zc5,List.length_take,List.length_take,Nat.min_eq_left (by omega),Nat.min_eq_left (by omega)]
 rw[← he]
 simp only[lval]
 have h1:=zbh (show 0<B by omega) (ha.take i)
 have h2:=zM (show 0≤B by omega) (hb.take i)
 rw[List.length_take,Nat.min_eq_left (by omega)]at h1
 generalize lval B (a.drop (i+1))=t at *
 generalize lval B (a.take i)=p at *
 generalize lval B (b.take i)=q at *
 generalize a.getD i 0=x at *
 generalize b.getD i 0=y at *
 have h3:B ^ i*(x+B*t)+B ^ i≤B ^ i*(y+B*t):=by
  have:=Int.mul_le_mul_of_nonneg_left (show x+B*t+1≤y+B*t by omega) (Int.le_of_lt (zbu (show 0<B by omega) i))
  rw[Int.mul_add (B ^ i) (x+B*t) 1]at this
  omega
 omega
theorem zeM{B:Int}(hB:2≤B){x y:Int}(hx:0≤x)(h:(limbs B x).length<(limbs B y).length):x<y:=by
 by_cases hle:y≤x
 ·have h1:=zbA hB x hx _ (Nat.le_refl _)
  have:=zbZ hB _ y (show y<B ^ (limbs B x).length by omega)
  omega
 ·omega
structure TimesInv (B:Int) (a b:List Int) (i k:Nat) (o:List Int) (c:Int):Prop where
 len:o.length=a.length+b.length+1
 dig:Dig B o
 c0:0≤c
 c1:c<B
 val:lval B o+B ^ (i+k)*c=lval B (a.take i)*lval B b+B ^ i*(a.getD i 0*lval B (b.take k))
theorem zg1(B:Int)(n:Nat):lval B (List.replicate n 0)=0:=by
 induction n with
 | zero=>rfl
 | succ n ih=>simp[List.replicate_succ,lval,ih]
theorem TimesInv.start(B:Int)(hB:2≤B)(a b:List Int):TimesInv B a b 0 0 (List.replicate (a.length+b.length+1) 0) 0 :=
 ⟨by simp,fun x hx=>by have:=List.eq_of_mem_replicate hx;omega,by omega,by omega,by rw[zg1];simp[lval]⟩
theorem ze3(B:Int):∀ (l:List Int) (j:Nat) (x:Int),j<l.length→lval B (l.set j x)=lval B l+B ^ j*(x - l.getD j 0)
 | y::r,0,x,_=>by simp[lval];omega
 | y::r,j+1,x,h=>by
  have ih:=ze3 B r j x (by simpa using h)
  simp only[List.set_cons_succ,lval,List.getD_cons_succ]
  rw[ih,Int.pow_succ]
  generalize r.getD j 0=z
  grind
theorem Dig.set{B:Int}{l:List Int}(h:Dig B l)(j:Nat){x:Int}(h0:0≤x)(h1:x<B):Dig B (l.set j x):=by
 intro y hy
 rcases List.mem_or_eq_of_mem_set hy with hy | rfl
 ·exact h y hy
 ·exact⟨h0,h1⟩
theorem ziE{B x y:Int}(hx0:0≤x)(hx:x<B)(hy0:0≤y)(hy:y<B):0≤x*y∧x*y≤(B - 1)*(B - 1) :=
 ⟨Int.mul_nonneg hx0 hy0,Int.mul_le_mul (by omega) (by omega) hy0 (by omega)⟩
theorem TimesInv.bound{B:Int}(hB:2≤B){a b:List Int}(ha:Dig B a)(hb:Dig B b){i k:Nat}{o:List Int}{c:Int}(h:TimesInv B a b i k o c) :
  0≤o.getD (i+k) 0+a.getD i 0*b.getD k 0+c∧o.getD (i+k) 0+a.getD i 0*b.getD k 0+c<B*B:=by
 have h1:=ha.get (by omega) i
 have h2:=hb.get (by omega) k
 have h3:=h.dig.get (by omega) (i+k)
 have h4:=ziE h1.1 h1.2 h2.1 h2.2
 have h5:=h.c0
 have h6:=h.c1
 have:(B - 1)*(B - 1)=B*B - 2*B+1:=by grind
 omega
theorem TimesInv.step{B:Int}(hB:2≤B){a b:List Int}(ha:Dig B a)(hb:Dig B b){i k:Nat}{o:List Int}{c:Int}(h:TimesInv B a b i k o c)
  (hi:i<a.length)(hk:k≤b.length) :
  TimesInv B a b i (k+1) (o.set (i+k) ((o.getD (i+k) 0+a.getD i 0*b.getD k 0+c) % B)) ((o.getD (i+k) 0+a.getD i 0*b.getD k 0+c) / B):=by
 obtain⟨hb1,hb2⟩:=h.bound hB ha hb
 have hlen:=h.len
 have hv:=h.val
 have hs:=ze3 B o (i+k) ((o.getD (i+k) 0+a.getD i 0*b.getD k 0+c) % B) (by omega)
 have ht:=zN B b k
 generalize hn:o.getD (i+k) 0+a.getD i 0*b.getD k 0+c=n at *
 have hm:=Int.emod_add_mul_ediv n B
 have hm0:=Int.emod_nonneg n (show B≠0 by omega)
 have hm1:=Int.emod_lt_of_pos n (show 0<B by omega)
 refine⟨by simp[hlen],h.dig.set _ hm0 hm1,Int.ediv_nonneg hb1 (by omega),Int.ediv_lt_of_lt_mul (by omega) hb2,?_⟩
 rw[hs,ht,show i+(k+1)=(i+k)+1 from rfl,Int.pow_succ]
 rw[Int.pow_add]at hv ⊢
 generalize o.getD (i+k) 0=u at *
 generalize a.getD i 0=x at *
 generalize b.getD k 0=y at *
 generalize n % B=m at *
 generalize n / B=d at *
 grind
theorem TimesInv.next{B:Int}(hB:2≤B){a b:List Int}(ha:Dig B a)(hb:Dig B b){i:Nat}{o:List Int}{c:Int}(h:TimesInv B a b i (b.length+1) o c)
  : TimesInv B a b (i+1) 0 o 0:=by
 have hv:=h.val
 rw[List.take_of_length_le (l:=b) (by omega)]at hv
 have e:lval B (a.take i)*lval B b+B ^ i*(a.getD i 0*lval B b)=lval B (a.take (i+1))*lval B b:=by
  rw[zN,Int.add_mul,Int.mul_assoc]
 rw[e]at hv
 have h1:=zbh (show 0<B by omega) (ha.take (i+1))
 have h2:=zbh (show 0<B by omega) hb
 have h3:=zM (show 0≤B by omega) (ha.take (i+1))
 have h4:=zM (show 0≤B by omega) hb
 have h5:=zM (show 0≤B by omega) h.dig
 have h6:=zbv (show 1≤B by omega) (show (a.take (i+1)).length≤i+1 by rw[List.length_take];omega)
 have hc:c=0:=by
  have hc0:=h.c0
  by_cases e0:1≤c
  ·have h7:B ^ (i+(b.length+1))*1≤B ^ (i+(b.length+1))*c:=Int.mul_le_mul_of_nonneg_left e0 (Int.le_of_lt (zbu (by omega) _))
   have h8:lval B (a.take (i+1))*lval B b<B ^ (i+1)*B ^ b.length:=by
    by_cases hz:lval B b=0
    ·rw[hz,Int.mul_zero];exact Int.mul_pos (zbu (by omega) _) (zbu (by omega) _)
    ·exact Int.mul_lt_mul (by omega) (by omega) (by omega) (Int.le_of_lt (zbu (by omega) _))
   rw[← Int.pow_add,show i+1+b.length=i+(b.length+1) by omega]at h8
   omega
  ·omega
 subst hc
 refine⟨h.len,h.dig,by omega,by omega,?_⟩
 simp only[List.take_zero,lval]
 rw[← hv];simp
theorem TimesInv.done{B:Int}(hB:2≤B){a b:List Int}{o:List Int}(h:TimesInv B a b a.length 0 o 0) :
  zaJ o=limbs B (lval B a*lval B b):=by
 have hv:=h.val
 simp only[List.take_length,List.take_zero,lval]at hv
 rw[zdi hB h.dig];congr 1;simpa using hv
structure ShortInv (B:Int) (a:List Int) (d:Int) (j:Nat) (q:List Int) (r:Int):Prop where
 len:q.length=a.length
 dig:Dig B q
 r0:0≤r
 r1:r<d
 val:lval B (a.drop j)=lval B (q.drop j)*d+r
 low:∀ k,k<j→q.getD k 0=0
theorem ShortInv.start(B:Int)(hB:2≤B)(a:List Int)(d:Int)(hd:0<d):ShortInv B a d a.length (List.replicate a.length 0) 0 :=
 ⟨by simp,fun x hx=>by have:=List.eq_of_mem_replicate hx;omega,by omega,by omega,by rw[List.drop_of_length_le (by omega),List.drop_of_length_le (by simp)];simp[lval],fun k _=>by
  rw[List.getD_eq_getElem?_getD,List.getElem?_replicate];split <;> rfl⟩
theorem zaV(B:Int)(a:List Int)(j:Nat)(hj:j<a.length):lval B (a.drop j)=a.getD j 0+B*lval B (a.drop (j+1)):=by
 rw[List.drop_eq_getElem_cons hj,List.getD_eq_getElem?_getD,List.getElem?_eq_getElem hj];rfl
theorem ShortInv.bound{B:Int}(hB:2≤B){a:List Int}(ha:Dig B a){d:Int}{j:Nat}{q:List Int}{r:Int}(h:ShortInv B a d (j+1) q r)(hd1:d≤B) :
  0≤a.getD j 0+r*B∧a.getD j 0+r*B<B*B:=by
 have h1:=ha.get (by omega) j
 have h2:0≤r*B:=Int.mul_nonneg h.r0 (by omega)
 have h3:r*B≤(B - 1)*B:=Int.mul_le_mul_of_nonneg_right (by have:=h.r1;omega) (by omega)
 have:(B - 1)*B=B*B - B:=by grind
 omega
theorem ShortInv.step{B:Int}(hB:2≤B){a:List Int}(ha:Dig B a){d:Int}(hd:0<d){j:Nat}{q:List Int}{r:Int}(h:ShortInv B a d (j+1) q r)
  (hj:j<a.length):ShortInv B a d j (q.set j ((a.getD j 0+r*B) / d)) ((a.getD j 0+r*B) % d):=by
 have h1:=ha.get (by omega) j
 have hr0:=h.r0
 have hr1:=h.r1
 have h2:0≤r*B:=Int.mul_nonneg hr0 (by omega)
 have h3:r*B≤(d - 1)*B:=Int.mul_le_mul_of_nonneg_right (by omega) (by omega)
 have h4:(d - 1)*B=B*d - B:=by grind
 have hlen:=h.len
 refine⟨by simp[hlen],h.dig.set _ (Int.ediv_nonneg (by omega) (by omega)) (Int.ediv_lt_of_lt_mul hd (by omega)),Int.emod_nonneg _ (by omega),Int.emod_lt_of_pos _ hd,?_,?_⟩
 ·have hm:=Int.emod_add_mul_ediv (a.getD j 0+r*B) d
  rw[zaV B a j hj,zaV B _ j (by simpa using(by omega)),h.val]
  rw[List.drop_set_of_lt (by omega)]
  rw[List.getD_eq_getElem?_getD (l:=q.set _ _),List.getElem?_set_self (by omega),Option.getD_some]
  generalize a.getD j 0=x at *
  generalize (x+r*B) % d=m at *
  generalize (x+r*B) / d=e at *
  grind
 ·intro k hk
  rw[List.getD_eq_getElem?_getD,List.getElem?_set_ne (by omega),← List.getD_eq_getElem?_getD]
  exact h.low k (by omega)
theorem zhv{a d q r:Int}(h0:0≤r)(h1:r<d)(h:a=q*d+r):a / d=q∧a % d=r:=by
 have hd:0<d:=by omega
 subst h
 constructor
 ·rw[Int.add_comm,Int.mul_comm,Int.add_mul_ediv_left _ _ (by omega),Int.ediv_eq_zero_of_lt h0 h1];omega
 ·rw[Int.add_comm,Int.mul_comm,Int.add_mul_emod_self_left,Int.emod_eq_of_lt h0 h1]
theorem ShortInv.done{B:Int}(hB:2≤B){a:List Int}{d:Int}(hd1:d≤B){q:List Int}{r:Int}(h:ShortInv B a d 0 q r) :
  zaJ q=limbs B (lval B a / d)∧r=lval B a % d∧zaJ [r]=limbs B (lval B a % d):=by
 have hv:=h.val
 simp only[List.drop_zero]at hv
 obtain⟨h1,h2⟩:=zhv h.r0 h.r1 hv
 have hr1:=h.r1
 refine⟨by rw[zdi hB h.dig,h1],h2.symm,?_⟩
 rw[zdi hB (Dig.one h.r0 (by omega)),h2];simp[lval]
end Kp
namespace Kp
theorem znO{B:Int}(hB:2≤B):∀ {l m:List Int},Dig B l→Dig B m→l.length=m.length→lval B l=lval B m→l=m
 | [],[],_,_,_,_=>rfl
 | [],y::m,_,_,h,_=>by simp at h
 | x::l,[],_,_,h,_=>by simp at h
 | x::l,y::m,hl,hm,h,e=>by
  have hx:=hl x (by simp)
  have hy:=hm y (by simp)
  simp only[lval]at e
  have e1:(x+B*lval B l) % B=(y+B*lval B m) % B:=by rw[e]
  have e2:(x+B*lval B l) / B=(y+B*lval B m) / B:=by rw[e]
  rw[Int.add_mul_emod_self_left,Int.add_mul_emod_self_left,Int.emod_eq_of_lt hx.1 hx.2,Int.emod_eq_of_lt hy.1 hy.2]at e1
  rw[Int.add_mul_ediv_left _ _ (by omega),Int.add_mul_ediv_left _ _ (by omega),Int.ediv_eq_zero_of_lt hx.1 hx.2,Int.ediv_eq_zero_of_lt hy.1 hy.2]at e2
  have:=znO hB (fun z hz=>hl z (by simp[hz])) (fun z hz=>hm z (by simp[hz])) (by simpa using h) (show lval B l=lval B m by omega)
  rw[e1,this]
theorem zdO(B:Int)(l:List Int)(j:Nat)(hj:j≤l.length):lval B l=lval B (l.take j)+B ^ j*lval B (l.drop j):=by
 have:=zc5 B (l.take j) (l.drop j)
 rw[List.take_append_drop,List.length_take,Nat.min_eq_left hj]at this
 exact this
theorem getD_drop(l:List Int)(j k:Nat):(l.drop j).getD k 0=l.getD (j+k) 0:=by
 rw[List.getD_eq_getElem?_getD,List.getElem?_drop,← List.getD_eq_getElem?_getD]
theorem zbr(B:Int):∀ (l:List Int) (k:Nat),(∀ i,k≤i→l.getD i 0=0)→lval B l=lval B (l.take k)
 | [],_,_=>by simp
 | x::r,0,h=>by
  have ih:=zbr B r 0 (fun i _=>by have:=h (i+1) (by omega);simpa using this)
  have h0:=h 0 (by omega)
  simp only[List.getD_cons_zero]at h0
  simp only[List.take_zero,lval]at *
  rw[ih,h0];simp
 | x::r,k+1,h=>by
  have ih:=zbr B r k (fun i hi=>by have:=h (i+1) (by omega);simpa using this)
  simp only[List.take_succ_cons,lval,ih]
theorem zby{B:Int}(hB:2≤B){l:List Int}(hl:Dig B l)(k:Nat)(h:lval B l<B ^ k):∀ i,k≤i→l.getD i 0=0:=by
 intro i hi
 by_cases hlt:i<l.length
 ·have hs:=zdO B l i (by omega)
  rw[zaV B l i hlt]at hs
  have h1:=zM (show 0≤B by omega) (hl.take i)
  have h2:=zM (show 0≤B by omega) (hl.drop (i+1))
  have h3:=hl.get (by omega) i
  have h4:=zbv (show 1≤B by omega) hi
  have h5:0≤B*lval B (l.drop (i+1)):=Int.mul_nonneg (by omega) h2
  by_cases e:l.getD i 0=0
  ·exact e
  ·have h6:B ^ i*1≤B ^ i*(l.getD i 0+B*lval B (l.drop (i+1))):=Int.mul_le_mul_of_nonneg_left (by omega) (Int.le_of_lt (zbu (by omega) _))
   omega
 ·rw[List.getD_eq_getElem?_getD,List.getElem?_eq_none (by omega)];rfl
theorem zb9{B:Int}(hB:2≤B){l:List Int}(hl:Dig B l)(k:Nat)(h:∀ i,k≤i→l.getD i 0=0):lval B l<B ^ k:=by
 rw[zbr B l k h]
 have h1:=zbh (show 0<B by omega) (hl.take k)
 have h2:=zbv (show 1≤B by omega) (show (l.take k).length≤k by rw[List.length_take];omega)
 omega
theorem zhU(l:List Int)(j k:Nat)(x:Int)(h:j≠k):(l.set j x).getD k 0=l.getD k 0:=by
 rw[List.getD_eq_getElem?_getD,List.getElem?_set_ne h,← List.getD_eq_getElem?_getD]
structure TakeInv (B:Int) (u v:List Int) (j:Nat) (q:Int) (i:Nat) (u':List Int) (c:Int):Prop where
 len:u'.length=u.length
 dig:Dig B u'
 c0:0≤c
 c1:c≤q
 val:lval B u'=lval B u - B ^ j*(q*lval B (v.take i))+B ^ (j+i)*c
 high:∀ k,j+i≤k→u'.getD k 0=u.getD k 0
theorem TakeInv.start{B:Int}{u v:List Int}(hu:Dig B u)(j:Nat){q:Int}(hq:0≤q):TakeInv B u v j q 0 u 0 :=
 ⟨rfl,hu,by omega,hq,by simp[lval],fun _ _=>rfl⟩
theorem TakeInv.bound{B:Int}(hB:2≤B){u v:List Int}(hv:Dig B v){j:Nat}{q:Int}{i:Nat}{u':List Int}{c:Int}(h:TakeInv B u v j q i u' c) :
  -(q*B)≤u'.getD (j+i) 0 - c - q*v.getD i 0∧u'.getD (j+i) 0 - c - q*v.getD i 0<B∧0≤q*v.getD i 0∧q*v.getD i 0≤q*(B - 1):=by
 have h1:=h.dig.get (show 0<B by omega) (j+i)
 have h2:=hv.get (show 0<B by omega) i
 have hc0:=h.c0
 have hc1:=h.c1
 have h3:0≤q*v.getD i 0:=Int.mul_nonneg (by omega) h2.1
 have h4:q*v.getD i 0≤q*(B - 1):=Int.mul_le_mul_of_nonneg_left (by omega) (by omega)
 have h5:q*(B - 1)=q*B - q:=by grind
 omega
theorem TakeInv.stepPos{B:Int}(hB:2≤B){u v:List Int}(hv:Dig B v){j:Nat}{q:Int}{i:Nat}{u':List Int}{c:Int}(h:TakeInv B u v j q i u' c)
  (hi:j+i<u.length)(hn:0≤u'.getD (j+i) 0 - c - q*v.getD i 0) :
  TakeInv B u v j q (i+1) (u'.set (j+i) (u'.getD (j+i) 0 - c - q*v.getD i 0)) 0:=by
 have hb:=h.bound hB hv
 refine⟨by simp[h.len],h.dig.set _ hn hb.2.1,by omega,by have:=h.c0;have:=h.c1;omega,?_,?_⟩
 ·rw[ze3 B u' (j+i) _ (by have:=h.len;omega),zN,h.val]
  have e:B ^ (j+i)=B ^ j*B ^ i:=Int.pow_add ..
  rw[e]
  grind
 ·intro k hk
  rw[zhU _ _ _ _ (by omega)];exact h.high k (by omega)
theorem TakeInv.stepNeg{B:Int}(hB:2≤B){u v:List Int}(hv:Dig B v){j:Nat}{q:Int}{i:Nat}{u':List Int}{c:Int}(h:TakeInv B u v j q i u' c)
  (hi:j+i<u.length)(_hn:u'.getD (j+i) 0 - c - q*v.getD i 0<0) :
  TakeInv B u v j q (i+1) (u'.set (j+i) (u'.getD (j+i) 0 - c - q*v.getD i 0+(-(u'.getD (j+i) 0 - c - q*v.getD i 0)+B - 1) / B*B))
   ((-(u'.getD (j+i) 0 - c - q*v.getD i 0)+B - 1) / B):=by
 have hb:=h.bound hB hv
 have hl:=ze3 B u' (j+i) (u'.getD (j+i) 0 - c - q*v.getD i 0+(-(u'.getD (j+i) 0 - c - q*v.getD i 0)+B - 1) / B*B) (by have:=h.len;omega)
 have hval:=h.val
 have ht:=zN B v i
 have hlen:=h.len
 have hdig:=h.dig
 generalize hw:u'.getD (j+i) 0=w at *
 generalize hz:v.getD i 0=z at *
 have hm:=Int.emod_add_mul_ediv (-(w - c - q*z)+B - 1) B
 have hm0:=Int.emod_nonneg (-(w - c - q*z)+B - 1) (show B≠0 by omega)
 have hm1:=Int.emod_lt_of_pos (-(w - c - q*z)+B - 1) (show 0<B by omega)
 have hd0:0≤(-(w - c - q*z)+B - 1) / B:=Int.ediv_nonneg (by omega) (by omega)
 have hd1:(-(w - c - q*z)+B - 1) / B≤q:=by
  have:(-(w - c - q*z)+B - 1) / B<q+1:=Int.ediv_lt_of_lt_mul (by omega) (by rw[Int.add_mul];omega)
  omega
 generalize (-(w - c - q*z)+B - 1) / B=d at *
 generalize (-(w - c - q*z)+B - 1) % B=m at *
 have e1:d*B=B*d:=Int.mul_comm ..
 refine⟨by simp[hlen],hdig.set _ (by omega) (by omega),hd0,hd1,?_,?_⟩
 ·rw[hl,ht,hval]
  have e:B ^ (j+i)=B ^ j*B ^ i:=Int.pow_add ..
  have e2:B ^ (j+(i+1))=B ^ j*B ^ i*B:=by rw[← Nat.add_assoc,Int.pow_succ,e]
  rw[e,e2]
  grind
 ·intro k hk
  rw[zhU _ _ _ _ (by omega)];exact h.high k (by omega)
theorem TakeInv.enough{B:Int}(hB:2≤B){u v:List Int}(hu:Dig B u)(hv:Dig B v){j:Nat}(hj:j≤u.length){q:Int}{i:Nat}(hi:v.length<i){u':List Int}{c:Int}(h:TakeInv B u v j q i u' c)
  (hX:lval B (u.drop j)<B*lval B v)(hq:q*lval B v≤lval B (u.drop j)) :
  c=0∧lval B u'=lval B u - B ^ j*(q*lval B v)∧lval B (u'.drop j)=lval B (u.drop j) - q*lval B v:=by
 have hval:=h.val
 rw[List.take_of_length_le (l:=v) (by omega)]at hval
 have hV:=zbh (show 0<B by omega) hv
 have hs:=zdO B u j hj
 have h1:=zM (show 0≤B by omega) (hu.take j)
 have h1':=zbh (show 0<B by omega) (hu.take j)
 rw[List.length_take,Nat.min_eq_left hj]at h1'
 have hpj:=zbu (show 0<B by omega) j
 have hXi:lval B (u.drop j)<B ^ i:=by
  have e:B*lval B v<B*B ^ v.length:=Int.mul_lt_mul_of_pos_left hV (by omega)
  rw[Int.mul_comm B (B ^ v.length),show B ^ v.length*B=B ^ (v.length+1)from(Int.pow_succ ..).symm]at e
  have:=zbv (show 1≤B by omega) (show v.length+1≤i by omega)
  omega
 have hz:=zby hB (hu.drop j) i hXi
 have hz':∀ k,j+i≤k→u'.getD k 0=0:=by
  intro k hk
  rw[h.high k hk]
  have:=hz (k - j) (by omega)
  rw[getD_drop,show j+(k - j)=k by omega]at this
  exact this
 have hu':=zb9 hB h.dig (j+i) hz'
 have h2:B ^ j*(q*lval B v)≤B ^ j*lval B (u.drop j):=Int.mul_le_mul_of_nonneg_left hq (by omega)
 have hc:c=0:=by
  have hc0:=h.c0
  by_cases e:1≤c
  ·have:B ^ (j+i)*1≤B ^ (j+i)*c:=Int.mul_le_mul_of_nonneg_left e (Int.le_of_lt (zbu (by omega) _))
   omega
  ·omega
 subst hc
 have hval':lval B u'=lval B u - B ^ j*(q*lval B v):=by rw[hval];simp
 refine⟨rfl,hval',?_⟩
 have hs':=zdO B u' j (by have:=h.len;omega)
 have h3:=zM (show 0≤B by omega) (h.dig.take j)
 have h3':=zbh (show 0<B by omega) (h.dig.take j)
 rw[List.length_take,Nat.min_eq_left (by have:=h.len;omega)]at h3'
 have e1:lval B u'=lval B (u.take j)+B ^ j*(lval B (u.drop j) - q*lval B v):=by
  rw[hval',hs,Int.mul_sub];omega
 have e2:(lval B (u'.take j)+B ^ j*lval B (u'.drop j)) / B ^ j=(lval B (u.take j)+B ^ j*(lval B (u.drop j) - q*lval B v)) / B ^ j:=by rw[← hs',e1]
 rw[Int.add_mul_ediv_left _ _ (by omega),Int.add_mul_ediv_left _ _ (by omega),Int.ediv_eq_zero_of_lt h3 h3',Int.ediv_eq_zero_of_lt h1 h1']at e2
 omega
theorem TakeInv.tooMuch{B:Int}(hB:2≤B){u v:List Int}(hu:Dig B u){j:Nat}(hj:j≤u.length){q:Int}{i:Nat}(hi:v.length<i){u':List Int}{c:Int}(h:TakeInv B u v j q i u' c)
  (hq:lval B (u.drop j)<q*lval B v):0<c:=by
 have hval:=h.val
 rw[List.take_of_length_le (l:=v) (by omega)]at hval
 have hs:=zdO B u j hj
 have h1':=zbh (show 0<B by omega) (hu.take j)
 rw[List.length_take,Nat.min_eq_left hj]at h1'
 have h2:=zM (show 0≤B by omega) h.dig
 have h3:B ^ j*(lval B (u.drop j)+1)≤B ^ j*(q*lval B v):=Int.mul_le_mul_of_nonneg_left (by omega) (Int.le_of_lt (zbu (by omega) _))
 rw[Int.mul_add]at h3
 have hc0:=h.c0
 by_cases e:c=0
 ·subst e;simp at hval;omega
 ·omega
structure BackInv (B:Int) (u v:List Int) (j:Nat) (q:Int) (i:Nat) (u':List Int) (c:Int):Prop where
 len:u'.length=u.length
 dig:Dig B u'
 c0:0≤c
 c1:c≤q
 val:lval B u'+B ^ (j+i)*c=lval B u+B ^ j*(q*lval B (v.take i))
 high:∀ k,j+i≤k→u'.getD k 0=u.getD k 0
theorem BackInv.start{B:Int}{u v:List Int}(hu:Dig B u)(j:Nat){q:Int}(hq:0≤q):BackInv B u v j q 0 u 0 :=
 ⟨rfl,hu,by omega,hq,by simp[lval],fun _ _=>rfl⟩
theorem BackInv.bound{B:Int}(hB:2≤B){u v:List Int}(hv:Dig B v){j:Nat}{q:Int}{i:Nat}{u':List Int}{c:Int}(h:BackInv B u v j q i u' c) :
  0≤u'.getD (j+i) 0+q*v.getD i 0+c∧u'.getD (j+i) 0+q*v.getD i 0+c<(q+1)*B∧0≤q*v.getD i 0∧q*v.getD i 0≤q*(B - 1):=by
 have h1:=h.dig.get (show 0<B by omega) (j+i)
 have h2:=hv.get (show 0<B by omega) i
 have hc0:=h.c0
 have hc1:=h.c1
 have h3:0≤q*v.getD i 0:=Int.mul_nonneg (by omega) h2.1
 have h4:q*v.getD i 0≤q*(B - 1):=Int.mul_le_mul_of_nonneg_left (by omega) (by omega)
 have h5:q*(B - 1)=q*B - q:=by grind
 have h6:(q+1)*B=q*B+B:=by grind
 omega
theorem BackInv.step{B:Int}(hB:2≤B){u v:List Int}(hv:Dig B v){j:Nat}{q:Int}{i:Nat}{u':List Int}{c:Int}(h:BackInv B u v j q i u' c)
  (hi:j+i<u.length) :
  BackInv B u v j q (i+1) (u'.set (j+i) ((u'.getD (j+i) 0+q*v.getD i 0+c) % B)) ((u'.getD (j+i) 0+q*v.getD i 0+c) / B):=by
 have hb:=h.bound hB hv
 have hl:=ze3 B u' (j+i) ((u'.getD (j+i) 0+q*v.getD i 0+c) % B) (by have:=h.len;omega)
 have hval:=h.val
 have ht:=zN B v i
 have hlen:=h.len
 have hdig:=h.dig
 have hc0:=h.c0
 have hc1:=h.c1
 generalize hw:u'.getD (j+i) 0=w at *
 generalize hz:v.getD i 0=z at *
 have hm:=Int.emod_add_mul_ediv (w+q*z+c) B
 have hm0:=Int.emod_nonneg (w+q*z+c) (show B≠0 by omega)
 have hm1:=Int.emod_lt_of_pos (w+q*z+c) (show 0<B by omega)
 have hd0:0≤(w+q*z+c) / B:=Int.ediv_nonneg (by omega) (by omega)
 have hd1:(w+q*z+c) / B<q+1:=Int.ediv_lt_of_lt_mul (by omega) (by omega)
 generalize (w+q*z+c) / B=d at *
 generalize (w+q*z+c) % B=m at *
 refine⟨by simp[hlen],hdig.set _ hm0 hm1,hd0,by omega,?_,?_⟩
 ·rw[hl,ht]
  have e:B ^ (j+i)=B ^ j*B ^ i:=Int.pow_add ..
  have e2:B ^ (j+(i+1))=B ^ j*B ^ i*B:=by rw[← Nat.add_assoc,Int.pow_succ,e]
  rw[e,e2]
  rw[e]at hval
  grind
 ·intro k hk
  rw[zhU _ _ _ _ (by omega)];exact h.high k (by omega)
theorem BackInv.undone{B:Int}(hB:2≤B){u v:List Int}(hu:Dig B u)(hv:Dig B v){j:Nat}{q:Int}{i:Nat}(hi:v.length<i){u1 u2:List Int}{c1 c2:Int}
  (h1:TakeInv B u v j q i u1 c1)(h2:BackInv B u1 v j q i u2 c2)(hX:lval B (u.drop j)<B*lval B v):u2=u:=by
 have hv1:=h1.val
 have hv2:=h2.val
 rw[List.take_of_length_le (l:=v) (by omega)]at hv1 hv2
 have hV:=zbh (show 0<B by omega) hv
 have hXi:lval B (u.drop j)<B ^ i:=by
  have e:B*lval B v<B*B ^ v.length:=Int.mul_lt_mul_of_pos_left hV (by omega)
  rw[Int.mul_comm B (B ^ v.length),show B ^ v.length*B=B ^ (v.length+1)from(Int.pow_succ ..).symm]at e
  have:=zbv (show 1≤B by omega) (show v.length+1≤i by omega)
  omega
 have hz:=zby hB (hu.drop j) i hXi
 have hz0:∀ k,j+i≤k→u.getD k 0=0:=by
  intro k hk
  have:=hz (k - j) (by omega)
  rw[getD_drop,show j+(k - j)=k by omega]at this
  exact this
 have hz2:∀ k,j+i≤k→u2.getD k 0=0:=fun k hk=>by rw[h2.high k hk,h1.high k hk,hz0 k hk]
 have l0:=zb9 hB hu (j+i) hz0
 have l2:=zb9 hB h2.dig (j+i) hz2
 have n0:=zM (show 0≤B by omega) hu
 have n2:=zM (show 0≤B by omega) h2.dig
 have e:lval B u2+B ^ (j+i)*c2=lval B u+B ^ (j+i)*c1:=by omega
 have e1:(lval B u2+B ^ (j+i)*c2) % B ^ (j+i)=(lval B u+B ^ (j+i)*c1) % B ^ (j+i):=by rw[e]
 rw[Int.add_mul_emod_self_left,Int.add_mul_emod_self_left,Int.emod_eq_of_lt n2 l2,Int.emod_eq_of_lt n0 l0]at e1
 exact znO hB h2.dig hu (by rw[h2.len,h1.len]) e1
structure DivInv (B:Int) (N V:Int) (j:Nat) (u qs:List Int) (n:Nat):Prop where
 len:u.length=qs.length+n
 dig:Dig B u
 digq:Dig B qs
 low:∀ k,k<j→qs.getD k 0=0
 val:lval B u+B ^ j*(lval B (qs.drop j)*V)=N
 top:lval B (u.drop j)<V
theorem DivInv.window{B:Int}(hB:2≤B){N V:Int}{j:Nat}{u qs:List Int}{n:Nat}(h:DivInv B N V (j+1) u qs n)(hj:j<qs.length) :
  0≤lval B (u.drop j)∧lval B (u.drop j)<B*V:=by
 have h1:=zaV B u j (by have:=h.len;omega)
 have h2:=h.top
 have h3:=h.dig.get (show 0<B by omega) j
 have h4:=zM (show 0≤B by omega) (h.dig.drop (j+1))
 have h5:B*(lval B (u.drop (j+1))+1)≤B*V:=Int.mul_le_mul_of_nonneg_left (by omega) (by omega)
 rw[Int.mul_add]at h5
 have h6:0≤B*lval B (u.drop (j+1)):=Int.mul_nonneg (by omega) h4
 omega
theorem DivInv.step{B:Int}(hB:2≤B){N V:Int}(hV:0<V){j:Nat}{u qs:List Int}{n:Nat}(h:DivInv B N V (j+1) u qs n)(hj:j<qs.length){u':List Int}
  (hl:u'.length=u.length)(hd:Dig B u')(h1:lval B u'=lval B u - B ^ j*(lval B (u.drop j) / V*V))(h2:lval B (u'.drop j)=lval B (u.drop j) - lval B (u.drop j) / V*V) :
  DivInv B N V j u' (qs.set j (lval B (u.drop j) / V)) n:=by
 have hw:=h.window hB hj
 have hq0:0≤lval B (u.drop j) / V:=Int.ediv_nonneg hw.1 (by omega)
 have hq1:lval B (u.drop j) / V<B:=Int.ediv_lt_of_lt_mul hV hw.2
 refine⟨by rw[hl,h.len];simp,hd,h.digq.set _ hq0 hq1,?_,?_,?_⟩
 ·intro k hk
  rw[zhU _ _ _ _ (by omega)];exact h.low k (by omega)
 ·rw[zaV B _ j (by simpa using hj),List.drop_set_of_lt (by omega),List.getD_eq_getElem?_getD,List.getElem?_set_self hj,Option.getD_some,h1,← h.val]
  have e:B ^ (j+1)=B ^ j*B:=Int.pow_succ ..
  rw[e]
  generalize lval B (u.drop j) / V=q at *
  grind
 ·rw[h2]
  have:=Int.emod_add_mul_ediv (lval B (u.drop j)) V
  have:=Int.emod_lt_of_pos (lval B (u.drop j)) hV
  have e:lval B (u.drop j) / V*V=V*(lval B (u.drop j) / V):=Int.mul_comm ..
  omega
theorem DivInv.done{B:Int}(hB:2≤B){N V:Int}{u qs:List Int}{n:Nat}(h:DivInv B N V 0 u qs n) :
  zaJ qs=limbs B (N / V)∧zaJ u=limbs B (N % V):=by
 have h1:=h.val
 have h2:=h.top
 simp only[List.drop_zero,Int.pow_zero,Int.one_mul]at h1 h2
 have h3:=zM (show 0≤B by omega) h.dig
 obtain⟨e1,e2⟩:=zhv h3 h2 (show N=lval B qs*V+lval B u by omega)
 exact⟨by rw[zdi hB h.digq,e1],by rw[zdi hB h.dig,e2]⟩
structure EstInv (X V v1 top q r:Int):Prop where
 eq:q*v1+r=top
 r0:0≤r
 ge:X / V≤q
theorem zgJ{B:Int}(hB:2≤B){l:List Int}(hl:Dig B l){n:Nat}(h:lval B l<B ^ (n+1)) :
  B ^ n*l.getD n 0≤lval B l∧lval B l<B ^ n*(l.getD n 0+1):=by
 have hz:=zby hB hl (n+1) h
 rw[zbr B l (n+1) hz,zN]
 have h1:=zM (show 0≤B by omega) (hl.take n)
 have h2:=zbh (show 0<B by omega) (hl.take n)
 have h3:=zbv (show 1≤B by omega) (show (l.take n).length≤n by rw[List.length_take];omega)
 rw[Int.mul_add]
 omega
theorem zh3{B:Int}(hB:2≤B){l:List Int}(hl:Dig B l){n:Nat}(h:lval B l<B ^ (n+2)) :
  B ^ n*(l.getD (n+1) 0*B+l.getD n 0)≤lval B l∧lval B l<B ^ n*(l.getD (n+1) 0*B+l.getD n 0+1):=by
 have hz:=zby hB hl (n+2) h
 rw[zbr B l (n+2) hz,zN,zN,Int.pow_succ]
 have h1:=zM (show 0≤B by omega) (hl.take n)
 have h2:=zbh (show 0<B by omega) (hl.take n)
 have h3:=zbv (show 1≤B by omega) (show (l.take n).length≤n by rw[List.length_take];omega)
 have e1:B ^ n*(l.getD (n+1) 0*B+l.getD n 0)=B ^ n*l.getD n 0+B ^ n*B*l.getD (n+1) 0:=by grind
 have e2:B ^ n*(l.getD (n+1) 0*B+l.getD n 0+1)=B ^ n*l.getD n 0+B ^ n*B*l.getD (n+1) 0+B ^ n:=by grind
 omega
theorem zmz{B:Int}(hB:2≤B){l:List Int}(hl:Dig B l){n:Nat}(h:lval B l<B ^ (n+3)) :
  B ^ n*((l.getD (n+2) 0*B+l.getD (n+1) 0)*B+l.getD n 0)≤lval B l∧lval B l<B ^ n*((l.getD (n+2) 0*B+l.getD (n+1) 0)*B+l.getD n 0+1):=by
 have hz:=zby hB hl (n+3) h
 rw[zbr B l (n+3) hz,zN,zN,zN,show B ^ (n+2)=B ^ n*B*B by rw[Int.pow_succ,Int.pow_succ],show B ^ (n+1)=B ^ n*B from Int.pow_succ ..]
 have h1:=zM (show 0≤B by omega) (hl.take n)
 have h2:=zbh (show 0<B by omega) (hl.take n)
 have h3:=zbv (show 1≤B by omega) (show (l.take n).length≤n by rw[List.length_take];omega)
 have e1:B ^ n*((l.getD (n+2) 0*B+l.getD (n+1) 0)*B+l.getD n 0)=B ^ n*l.getD n 0+B ^ n*B*l.getD (n+1) 0+B ^ n*B*B*l.getD (n+2) 0:=by grind
 have e2:B ^ n*((l.getD (n+2) 0*B+l.getD (n+1) 0)*B+l.getD n 0+1)=B ^ n*l.getD n 0+B ^ n*B*l.getD (n+1) 0+B ^ n*B*B*l.getD (n+2) 0+B ^ n:=by grind
 omega
theorem zpY{P X V t s:Int}(hP:0<P)(hX:X<P*(t+1))(hV:P*s≤V)(hs:0<s)(hX0:0≤X):X / V≤t / s:=by
 have hV0:0<V:=by have:=Int.mul_pos hP hs;omega
 have hq:=Int.mul_ediv_self_le (x:=X) (k:=V) (by omega)
 have hq0:0≤X / V:=Int.ediv_nonneg hX0 (by omega)
 generalize X / V=q at *
 have h1:q*(P*s)≤q*V:=Int.mul_le_mul_of_nonneg_left hV hq0
 have h2:P*(q*s)<P*(t+1):=by
  have e:P*(q*s)=q*(P*s):=by grind
  rw[Int.mul_comm V q]at hq
  omega
 have h3:q*s<t+1:=Int.lt_of_mul_lt_mul_left h2 (by omega)
 rw[Int.le_ediv_iff_mul_le hs]
 omega
theorem EstInv.start{X V v1 top:Int}(hv:0<v1)(h:X / V≤top / v1):EstInv X V v1 top (top / v1) (top % v1) :=
 ⟨by have:=Int.emod_add_mul_ediv top v1;rw[Int.mul_comm]at this;omega,Int.emod_nonneg _ (by omega),h⟩
theorem EstInv.next{P B X V v1 v2 u2 top q r:Int}(h:EstInv X V v1 top q r)(hv1:0<v1)
  (hP:0<P)(hX0:0≤X)(hX:X<P*(top*B+u2+1))(hV:P*(v1*B+v2)≤V)(hs:0<v1*B+v2)(hqB:X / V<B)
  (hc:B≤q∨r*B+u2<q*v2):EstInv X V v1 top (q - 1) (r+v1):=by
 have hr0:=h.r0
 have hge:=h.ge
 refine⟨by have:=h.eq;rw[Int.sub_mul];omega,by omega,?_⟩
 rcases hc with hc | hc
 ·omega
 ·have h1:=zpY hP hX hV hs hX0
  have h2:(top*B+u2) / (v1*B+v2)<q:=Int.ediv_lt_of_lt_mul hs (by
   have e:=h.eq
   have:q*(v1*B+v2)=(q*v1)*B+q*v2:=by grind
   rw[this]
   have e2:top*B=(q*v1)*B+r*B:=by rw[← e];grind
   omega)
  omega
end Kp
namespace Kp
open Go.Lib (decDigits itoa nDigits)
def zo(a:Str):Str:=if a.head? = some 45 then a.tail else a
def zdc(a:Str):Int :=
 if zo a=[]∨((zo a).head? = some 48∧a≠[48])∨¬ (∀ c∈zo a,zar c=true)then 11
 else if 300<(zo a).length then 4 else 0
def ival(a:Str):Int:=if a.head? = some 45 then -(nval a.tail:Int)else(nval a:Int)
def maxD:Nat:=300
theorem maxD_eq:maxD=300:=rfl
attribute [irreducible] maxD
def big:Nat:=10 ^ maxD
def lim(z:Int):Bool:=decide (big≤z.natAbs)
theorem zF(n:Nat):(decDigits n).head?≠some 45:=by
 cases h:decDigits n with
 | nil=>simp
 | cons c r =>
  have:=zY n c (by rw[h];simp)
  simp only[zar,Bool.and_eq_true,decide_eq_true_eq]at this
  intro e
  simp only[List.head?_cons,Option.some.injEq]at e
  subst e;simp at this
theorem itoa_nonneg{z:Int}(h:0≤z):itoa z=decDigits z.toNat:=by unfold itoa;rw[if_neg (by omega)]
theorem itoa_neg{z:Int}(h:z<0):itoa z=45::decDigits z.natAbs:=by unfold itoa;rw[if_pos h]
theorem zav(z:Int):zo (itoa z)=decDigits z.natAbs:=by
 by_cases h:z<0
 ·rw[itoa_neg h];simp[zo]
 ·rw[itoa_nonneg (by omega)];unfold zo;rw[if_neg (zF _)]
  congr 1;omega
theorem zcB(z:Int):ival (itoa z)=z:=by
 by_cases h:z<0
 ·rw[itoa_neg h];simp[ival,z8];omega
 ·rw[itoa_nonneg (by omega)];unfold ival;rw[if_neg (zF _),z8];omega
theorem zcc(z:Int):zdc (itoa z)=if lim z then 4 else 0:=by
 have h1:zo (itoa z)=decDigits z.natAbs:=zav z
 unfold zdc
 have h2:=zm z.natAbs maxD (by rw[maxD_eq];decide)
 rw[if_neg]
 ·rw[h1,← maxD_eq]
  unfold lim big
  by_cases h:maxD<(decDigits z.natAbs).length
  ·rw[if_pos h,if_pos (by simp only[decide_eq_true_eq];omega)]
  ·rw[if_neg h,if_neg (by simp only[decide_eq_true_eq];omega)]
 rw[h1]
 ·rintro(h | ⟨h,h2⟩ | h)
  ·exact zat _ h
  ·by_cases hz:0<z.natAbs
   ·exact zdB _ hz h
   ·have:z=0:=by omega
    subst this;exact h2 (by simp[itoa,decDigits])
  ·exact h (zY _)
theorem zeO{a:Str}(h:zdc a=0):itoa (ival a)=a∧lim (ival a)=false:=by
 unfold zdc at h
 split at h
 ·cases h
 ·next h1 =>
  split at h
  ·cases h
  ·next h2 =>
   simp only[not_or,Classical.not_not,not_and]at h1
   obtain⟨ne,hz,hd⟩:=h1
   have key:itoa (ival a)=a:=by
    unfold zo at ne hz hd
    by_cases hm:a.head? = some 45
    ·rw[if_pos hm]at ne hz hd
     cases a with
     | nil=>cases hm
     | cons c r =>
      simp only[List.head?_cons,Option.some.injEq]at hm
      subst hm
      simp only[List.tail_cons]at ne hz hd
      have hh:r.head?≠some 48:=fun e=>by have:=hz e;simp at this
      have hdd:=zbL r ne hd (fun e=>absurd e hh)
      have hpos:nval r≠0:=by
       intro e
       rw[e]at hdd
       rw[← hdd]at hh
       exact hh (by simp[decDigits])
      simp only[ival,List.head?_cons,if_pos,List.tail_cons]
      rw[itoa_neg (by omega),show (-(nval r:Int)).natAbs=nval r by omega,hdd]
    ·rw[if_neg hm]at ne hz hd
     unfold ival
     rw[if_neg hm,itoa_nonneg (by omega),Int.toNat_natCast]
     exact zbL a ne hd (fun e=>hz e)
   refine⟨key,?_⟩
   have:=zcc (ival a)
   rw[key]at this
   unfold zdc at this
   rw[if_neg (by simp only[not_or,Classical.not_not,not_and];exact⟨ne,hz,hd⟩),if_neg h2]at this
   cases hl:lim (ival a)with
   | false=>rfl
   | true=>rw[hl]at this;simp at this
theorem zjU(a:Str):zdc a=0∨zdc a=4∨zdc a=11:=by
 unfold zdc;split
 ·exact Or.inr (Or.inr rfl)
 ·split
  ·exact Or.inr (Or.inl rfl)
  ·exact Or.inl rfl
theorem za1(z:Int):lim z=false ↔ z.natAbs<big:=by simp[lim]
theorem zU(z:Int)(h:lim z=false):(itoa z).length≤301:=by
 rw[za1]at h
 unfold big at h
 rw[← zm _ maxD (by rw[maxD_eq];decide),maxD_eq]at h
 by_cases hz:z<0
 ·rw[itoa_neg hz];simp only[List.length_cons];omega
 ·rw[itoa_nonneg (by omega),show z.toNat=z.natAbs by omega];omega
theorem zak{x y:Int}(h:itoa x=itoa y):x=y:=by rw[← zcB x,h,zcB]
end Kp
namespace Kp
open Go.Lib (decDigits itoa nDigits)
def zq(a:Str):Str:=a.takeWhile (·≠47)
def zC(a:Str):Bool:=decide (47∈a)
def zV(a:Str):Str:=(a.dropWhile (·≠47)).tail
def ze(q:Rat):Str:=if q.den=1 then itoa q.num else itoa q.num++47::decDigits q.den
def zly(a:Str):Prop :=
 zdc (zq a)=11∨(zC a=true∧(zdc (zV a)=11∨(zV a).head? = some 45∨zV a=[48]∨zV a=[49]))
instance (a:Str):Decidable (zly a):=by unfold zly;infer_instance
def zal(a:Str):Str:=if zC a then zV a else [49]
def zcg(a:Str):Int :=
 if zly a then 11
 else if zdc (zq a)=4∨zdc (zal a)=4 then 4
 else if Nat.gcd (ival (zq a)).natAbs (ival (zal a)).natAbs≠1 then 11 else 0
def rval(a:Str):Rat:=mkRat (ival (zq a)) (ival (zal a)).natAbs
def zam(q:Rat):Bool:=lim q.num || lim q.den
theorem zhq(z:Int):∀ c∈itoa z,c≠47:=by
 intro c hc e
 subst e
 by_cases h:z<0
 ·rw[itoa_neg h]at hc
  rcases List.mem_cons.1 hc with hc | hc
  ·cases hc
  ·have:=zY _ _ hc;simp[zar]at this
 ·rw[itoa_nonneg (by omega)]at hc
  have:=zY _ _ hc;simp[zar]at this
theorem zB(n:Nat):decDigits n=itoa (n:Int):=by rw[itoa_nonneg (by omega),Int.toNat_natCast]
theorem za4{α:Type}(p:α→Bool):∀ (l:List α),(∀ x∈l,p x=true)→l.takeWhile p=l
 | [],_=>rfl
 | x::r,h=>by
  rw[List.takeWhile_cons,if_pos (h x (by simp)),za4 p r (fun y hy=>h y (by simp[hy]))]
theorem zbI{α:Type}(p:α→Bool)(x:α)(m:List α)(hx:p x=false):∀ (l:List α),(∀ y∈l,p y=true)→(l++x::m).takeWhile p=l
 | [],_=>by simp[hx]
 | y::r,h=>by
  rw[List.cons_append,List.takeWhile_cons,if_pos (h y (by simp)),zbI p x m hx r (fun z hz=>h z (by simp[hz]))]
theorem zdA{α:Type}(p:α→Bool)(x:α)(m:List α)(hx:p x=false):∀ (l:List α),(∀ y∈l,p y=true)→(l++x::m).dropWhile p=x::m
 | [],_=>by simp[hx]
 | y::r,h=>by
  rw[List.cons_append,List.dropWhile_cons,if_pos (h y (by simp)),zdA p x m hx r (fun z hz=>h z (by simp[hz]))]
theorem zeJ{z:Int}:∀ c∈itoa z,decide (c≠47)=true:=fun c hc=>by simpa using zhq z c hc
theorem zkF(z:Int):zq (itoa z)=itoa z:=za4 _ _ zeJ
theorem zbK(z:Int):zC (itoa z)=false:=by
 simp only[zC,decide_eq_false_iff_not]
 intro h;exact zhq z _ h rfl
theorem zlK(z:Int)(d:Str):zq (itoa z++47::d)=itoa z:=zbI _ _ _ (by simp) _ zeJ
theorem zeV(z:Int)(d:Str):zV (itoa z++47::d)=d:=by
 unfold zV;rw[zdA _ _ _ (by simp) _ zeJ];rfl
theorem zgt(n d:Str):zC (n++47::d)=true:=by simp[zC]
theorem zai:itoa 1=[49]:=by simp[itoa,decDigits]
theorem zae:itoa 0=[48]:=by simp[itoa,decDigits]
theorem zm5:lim 1=false:=by
 rw[za1];unfold big
 have:10 ^ 1≤10 ^ maxD:=Nat.pow_le_pow_right (by decide) (by rw[maxD_eq];decide)
 simp at *;omega
theorem zjo(z:Int):zdc (itoa z)=4 ↔ lim z=true:=by
 rw[zcc];cases lim z <;> simp
theorem zcv(z:Int):zdc (itoa z)≠11:=by
 rw[zcc];cases lim z <;> simp
theorem zbY(q:Rat):zq (ze q)=itoa q.num:=by
 unfold ze;split
 ·exact zkF _
 ·exact zlK _ _
theorem zed(q:Rat):zal (ze q)=itoa q.den:=by
 unfold ze zal;split
 ·next h=>rw[zbK,h];simp[zai]
 ·rw[zgt,zeV,zB];simp
theorem zpW(q:Rat):¬ zly (ze q):=by
 unfold zly
 rw[zbY]
 rintro(h | ⟨h,h2⟩)
 ·exact zcv _ h
 ·unfold ze at h h2
  split at h
  ·rw[zbK]at h;cases h
  ·next hd =>
   rw[if_neg hd,zeV,zB]at h2
   rcases h2 with h2 | h2 | h2 | h2
   ·exact zcv _ h2
   ·rw[← zB]at h2;exact zF _ h2
   ·rw[← zae]at h2;have:=zak h2;have:=q.den_nz;omega
   ·rw[← zai]at h2;have:=zak h2;omega
theorem zb5(q:Rat):zcg (ze q)=if zam q then 4 else 0:=by
 unfold zcg
 rw[if_neg (zpW q),zbY,zed]
 simp only[zjo]
 unfold zam
 by_cases h:lim q.num=true∨lim q.den=true
 ·rw[if_pos h,if_pos (by simpa using h)]
 ·rw[if_neg h,zcB,zcB,if_neg (by have:=q.reduced;simp only[Int.natAbs_natCast,ne_eq,Classical.not_not];exact this)]
  rw[if_neg (by simpa using h)]
theorem zlo(q:Rat):rval (ze q)=q:=by
 unfold rval
 rw[zbY,zed,zcB,zcB,Int.natAbs_natCast]
 exact Rat.mkRat_self q
theorem zbt{p q:Rat}(h:ze p=ze q):p=q:=by rw[← zlo p,h,zlo]
theorem zev(a:Str)(h:47∈a):a=zq a++47::zV a:=by
 unfold zq zV
 have h1:=List.takeWhile_append_dropWhile (p:=fun c:UInt8=>decide (c≠47)) (l:=a)
 cases hd:a.dropWhile (fun c:UInt8=>decide (c≠47))with
 | nil =>
  rw[hd,List.append_nil]at h1
  rw[← h1]at h
  have:=List.all_takeWhile (p:=fun c:UInt8=>decide (c≠47)) (l:=a)
  rw[List.all_eq_true]at this
  have:=this _ h
  simp at this
 | cons c r =>
  have h2:=List.head?_dropWhile_not (fun c:UInt8=>decide (c≠47)) a
  rw[hd]at h2
  simp at h2
  subst h2
  rw[hd]at h1
  simpa using h1.symm
theorem zdl{a:Str}(h1:zdc a≠11)(h2:zdc a≠4):zdc a=0:=by
 rcases zjU a with h | h | h
 ·exact h
 ·exact absurd h h2
 ·exact absurd h h1
theorem zcZ{a:Str}(h:zcg a=0):ze (rval a)=a∧zam (rval a)=false:=by
 unfold zcg at h
 split at h
 ·cases h
 ·next hb =>
  split at h
  ·cases h
  ·next h4 =>
   split at h
   ·cases h
   ·next hg =>
    simp only[ne_eq,Classical.not_not]at hg
    simp only[not_or]at h4
    unfold zly at hb
    simp only[not_or,not_and]at hb
    have hn:=zeO (zdl hb.1 h4.1)
    by_cases hs:47∈a
    ·have hs':zC a=true:=by simpa[zC]using hs
     obtain⟨b1,b2,b3,b4⟩:=hb.2 hs'
     have ed:zal a=zV a:=by unfold zal;rw[if_pos hs']
     rw[ed]at h4 hg
     have hd:=zeO (zdl b1 h4.2)
     have hd0:0≤ival (zV a):=by unfold ival;rw[if_neg b2];omega
     have hd1:ival (zV a)≠0:=by intro e;rw[e,zae]at hd;exact b3 hd.1.symm
     have hd2:ival (zV a)≠1:=by intro e;rw[e,zai]at hd;exact b4 hd.1.symm
     have key:rval a=⟨ival (zq a),(ival (zV a)).natAbs,by omega,hg⟩:=by
      unfold rval;rw[ed,Rat.mk_eq_mkRat]
     have ec:((ival (zV a)).natAbs:Int)=ival (zV a):=by omega
     rw[key]
     refine⟨?_,?_⟩
     ·unfold ze
      simp only
      rw[if_neg (by omega),zB,ec,hn.1,hd.1]
      exact(zev a hs).symm
     ·unfold zam;simp only;rw[hn.2,ec,hd.2];rfl
    ·have hs':zC a=false:=by simpa[zC]using hs
     have ed:zal a=[49]:=by unfold zal;rw[hs'];rfl
     have en:zq a=a:=za4 _ _ (fun c hc=>by
      simp only[ne_eq,decide_eq_true_eq];intro e;subst e;exact hs hc)
     have ei:ival [49]=1:=by rw[← zai,zcB]
     have key:rval a=⟨ival a,1,by decide,by simp⟩:=by
      unfold rval;rw[ed,en,ei,Rat.mk_eq_mkRat];rfl
     rw[key]
     rw[en]at hn
     refine⟨?_,?_⟩
     ·unfold ze;simp only;rw[if_pos trivial,hn.1]
     ·unfold zam;simp only;rw[hn.2];exact zm5
end Kp
namespace Kp
open Go.Lib (decDigits itoa nDigits)
def zbg(s:Str):Nat:=((s.take 9).takeWhile zar).length
def zbT(s:Str):Bool:=decide (0<zbg s∧zbg s≤8∧¬ (1<zbg s∧at0 s 0=48))
def zbO(s:Str):Nat:=if zbT s then nval (s.take (zbg s))else 0
def zy(s:Str):Str:=if zbT s then s.drop (zbg s)else []
def zay(s:Str):Prop:=∀ c∈s,zar c=true
theorem zay.snoc{s:Str}{k:Nat}(h:zay (s.take k))(hk:k<s.length)(hd:zar (at0 s k)=true):zay (s.take (k+1)):=by
 rw[List.take_succ_eq_append_getElem hk]
 intro c hc
 rcases List.mem_append.1 hc with hc | hc
 ·exact h c hc
 ·simp only[List.mem_singleton]at hc
  subst hc
  rw[zcJ s k hk]at hd
  exact hd
theorem zgK{α:Type}(p:α→Bool):∀ (l:List α),(∀ x∈l,p x=true)→(l.takeWhile p).length=l.length
 | l,h=>by rw[za4 p l h]
theorem ziD{s:Str}{k:Nat}(h:zay (s.take k))(hk:k≤s.length)(hk9:k≤9)(stop:k=s.length∨k=9∨zar (at0 s k)=false):zbg s=k:=by
 unfold zbg
 by_cases h9:k=9∨k=s.length
 ·have e:s.take 9=s.take k:=by
   rcases h9 with h9 | h9
   ·rw[h9]
   ·rw[List.take_of_length_le (by omega),List.take_of_length_le (by omega)]
  rw[e,zgK _ _ h,List.length_take];omega
 ·have hd:zar (at0 s k)=false:=by
   rcases stop with e | e | e
   ·exact absurd (Or.inr e) h9
   ·exact absurd (Or.inl e) h9
   ·exact e
  have hlt:k<s.length:=by omega
  have e:s.take 9=s.take k++at0 s k::(s.drop (k+1)).take (8 - k):=by
   conv=>lhs;rw[← List.take_append_drop k s]
   rw[List.take_append,List.length_take,Nat.min_eq_left (by omega),List.take_of_length_le (by rw[List.length_take];omega)]
   rw[List.drop_eq_getElem_cons hlt,zcJ s k hlt,show 9 - k=(8 - k)+1 by omega,List.take_succ_cons]
  rw[e,zbI _ _ _ hd _ h,List.length_take];omega
theorem zfh{s:Str}{k:Nat}(hk:k<s.length):nval (s.take (k+1))=10*nval (s.take k)+((at0 s k).toNat - 48):=by
 rw[List.take_succ_eq_append_getElem hk,zix,zcJ s k hk]
theorem zcC(c:UInt8):zar c=true ↔ 48≤c.toNat∧c.toNat≤57:=by simp[zar]
theorem zc6(c:UInt8):zar c=false ↔ c.toNat<48∨57<c.toNat:=by
 rw[Bool.eq_false_iff,ne_eq,zcC];omega
theorem zeH{s:Str}{k:Nat}(h:zay (s.take k)):nval (s.take k)<10 ^ k:=by
 have h1:=ziy _ h
 have h2:10 ^ (s.take k).length≤10 ^ k:=Nat.pow_le_pow_right (by decide) (by rw[List.length_take];omega)
 omega
theorem zkI{s:Str}{k:Nat}(h:zbg s=k)(hk:k=0∨8<k∨(1<k∧at0 s 0=48)):zbT s=false∧zbO s=0∧zy s=[]:=by
 have e:zbT s=false:=by
  unfold zbT;rw[h,decide_eq_false_iff_not]
  rintro⟨a,b,c⟩
  rcases hk with hk | hk | hk
  ·omega
  ·omega
  ·exact c hk
 exact⟨e,by unfold zbO;rw[e];rfl,by unfold zy;rw[e];rfl⟩
theorem zkH{s:Str}{k:Nat}(h:zbg s=k)(h0:0<k)(h8:k≤8)(hz:k=1∨at0 s 0≠48):zbT s=true∧zbO s=nval (s.take k)∧zy s=s.drop k:=by
 have e:zbT s=true:=by
  unfold zbT;rw[h,decide_eq_true_eq];exact⟨h0,h8,fun⟨a,b⟩=>hz.elim (fun c=>by omega) (fun c=>c b)⟩
 exact⟨e,by unfold zbO;rw[e,h];rfl,by unfold zy;rw[e,h];rfl⟩
theorem zmA(c:UInt8):((c.toNat:Int) == 48)=decide (c=48):=by
 by_cases h:c=48
 ·subst h;rfl
 ·have:c.toNat≠48:=fun e=>h (UInt8.toNat_inj.1 e)
  simp[h];omega
end Kp
namespace Kp
open Go.Lib (decDigits itoa nDigits)
theorem zeg(s:Str):Go.Lib.trimPrefix s [45]=zo s:=by
 unfold Go.Lib.trimPrefix Go.Lib.hasPrefix zo
 cases s with
 | nil=>simp
 | cons c r =>
  by_cases h:c=45
  ·subst h;simp
  ·have:(45 == c)=false:=by simpa using fun e=>h e.symm
   simp[h,List.isPrefixOf,this]
theorem zeS(s:Str):Go.Lib.hasPrefix s [45]=decide (s.head? = some 45):=by
 unfold Go.Lib.hasPrefix
 cases s with
 | nil=>simp
 | cons c r =>
  by_cases h:c=45
  ·subst h;simp
  ·have:(45 == c)=false:=by simpa using fun e=>h e.symm
   simp[h,List.isPrefixOf,this]
theorem index_one:∀ (s:Str) (c:UInt8),(c∈s→Go.Lib.index s [c]=((s.takeWhile (·≠c)).length:Int))∧(¬ c∈s→Go.Lib.index s [c] = -1)
 | [],c=>⟨fun h=>(by cases h),fun _=>by simp[Go.Lib.index]⟩
 | b::r,c=>by
  obtain⟨h1,h2⟩:=index_one r c
  by_cases e:b=c
  ·subst e
   exact⟨fun _=>by simp[Go.Lib.index],fun h=>absurd (by simp) h⟩
  ·refine⟨fun h=>?_,fun h=>?_⟩
   ·have hr:c∈r:=by rcases List.mem_cons.1 h with h | h;exact absurd h.symm e;exact h
    simp only[Go.Lib.index,h1 hr]
    have e2:(c == b)=false:=by simpa using fun x=>e x.symm
    simp[e,List.isPrefixOf,e2]
   ·have hr:¬ c∈r:=fun hr=>h (by simp[hr])
    have e2:(c == b)=false:=by simpa using fun x=>e x.symm
    simp only[Go.Lib.index,h2 hr]
    simp[List.isPrefixOf,e2]
theorem zqN(s:Str):Go.Lib.cut s [47]=(zq s,if zC s then zV s else [],zC s):=by
 unfold Go.Lib.cut
 obtain⟨h1,h2⟩:=index_one s 47
 by_cases h:47∈s
 ·rw[h1 h,if_pos (by omega)]
  have hs:zC s=true:=by simpa[zC]using h
  have e:=zev s h
  rw[hs,if_pos rfl]
  have hl:(s.takeWhile (·≠47)).length=(zq s).length:=rfl
  rw[Int.toNat_natCast,hl]
  have e1:s.take (zq s).length=zq s:=by
   have:=List.take_left (l₁:=zq s) (l₂:=47::zV s)
   rw[← e]at this;exact this
  have e2:s.drop ((zq s).length+1)=zV s:=by
   have:=List.drop_left (l₁:=zq s++[47]) (l₂:=zV s)
   rw[List.append_assoc,List.singleton_append,← e,List.length_append]at this
   exact this
  rw[e1,show [(47:UInt8)].length=1 from rfl,e2]
 ·rw[h2 h,if_neg (by omega)]
  have hs:zC s=false:=by simpa[zC]using h
  have en:zq s=s:=za4 _ _ (fun c hc=>by
   simp only[ne_eq,decide_eq_true_eq];intro e;subst e;exact h hc)
  rw[hs,en];simp
theorem zju(s:Str):Go.Lib.contains s [47]=zC s:=by
 unfold Go.Lib.contains zC
 obtain⟨h1,h2⟩:=index_one s 47
 by_cases h:47∈s
 ·rw[h1 h];simp[h]
 ·rw[h2 h];simp[h]
theorem zi2(c:UInt8):[(48:UInt8),49,50,51,52,53,54,55,56,57].contains c=zar c:=by
 have h:∀ n:Fin 256,[(48:UInt8),49,50,51,52,53,54,55,56,57].contains (UInt8.ofNat n.val)=zar (UInt8.ofNat n.val):=by decide +kernel
 have:=h ⟨c.toNat,c.toNat_lt⟩
 simpa using this
theorem dropWhile_nil{α:Type}(p:α→Bool):∀ (l:List α),l.dropWhile p=[] ↔ ∀ x∈l,p x=true
 | []=>by simp
 | x::r=>by
  rw[List.dropWhile_cons]
  by_cases h:p x=true
  ·rw[if_pos h,dropWhile_nil p r];simp[h]
  ·rw[if_neg h];simp[h]
theorem zmy(s:Str):(Go.Lib.trimS s [48,49,50,51,52,53,54,55,56,57]=[]) ↔ zay s:=by
 unfold Go.Lib.trimS Go.Lib.trimLeftS Go.Lib.trimRightS zay
 have e:(fun x=>[(48:UInt8),49,50,51,52,53,54,55,56,57].contains x)=zar:=funext zi2
 rw[e]
 constructor
 ·intro h
  rw[dropWhile_nil]at h
  by_cases hr:s.reverse.dropWhile zar=[]
  ·rw[dropWhile_nil]at hr
   intro c hc;exact hr c (by simpa using hc)
  ·exfalso
   have h2:∀ x∈s.reverse.dropWhile zar,zar x=true:=fun x hx=>h x (by simpa using hx)
   cases hd:s.reverse.dropWhile zar with
   | nil=>exact hr hd
   | cons c r =>
    have:=List.head?_dropWhile_not zar s.reverse
    rw[hd]at this h2
    have hc:=h2 c (by simp)
    simp[hc]at this
 ·intro h
  have:s.reverse.dropWhile zar=[]:=(dropWhile_nil _ _).2 (fun c hc=>h c (by simpa using hc))
  rw[this];rfl
theorem zi4:∀ (l:Str) (n:Nat),zay l→Go.Lib.decFrom n l=some (zfE l n)
 | [],n,_=>rfl
 | c::r,n,h=>by
  have hc:=(zcC c).1 (h c (by simp))
  simp only[Go.Lib.decFrom,Go.Lib.digitVal,zfE]
  rw[if_pos hc]
  simp only
  rw[Nat.mul_comm n 10]
  exact zi4 r _ (fun x hx=>h x (by simp[hx]))
theorem zj0(n:Nat):Go.Lib.decNat (decDigits n)=some n:=by
 unfold Go.Lib.decNat
 rw[if_neg (by simpa using zat n),zi4 _ _ (zY n)]
 show some (nval (decDigits n))=_
 rw[z8]
theorem zqT(z:Int):Go.Lib.atoi (itoa z)=some z:=by
 by_cases h:z<0
 ·rw[itoa_neg h]
  simp only[Go.Lib.atoi]
  rw[if_pos (by decide),zj0]
  simp;omega
 ·rw[itoa_nonneg (by omega)]
  cases hd:decDigits z.toNat with
  | nil=>exact absurd hd (zat _)
  | cons c r =>
   have hc:=(zcC c).1 (zY z.toNat c (by rw[hd];simp))
   simp only[Go.Lib.atoi]
   rw[if_neg (by intro e;simp only[beq_iff_eq]at e;subst e;simp at hc),if_neg (by intro e;simp only[beq_iff_eq]at e;subst e;simp at hc),← hd,zj0]
   simp;omega
theorem zbP{s:Str}(h:s≠[]):s.head? = some (at0 s 0):=by
 cases s with
 | nil=>exact absurd rfl h
 | cons c r=>rfl
theorem zdF(a:Str):(zo a).length≤a.length:=by
 unfold zo;split
 ·simp
 ·exact Nat.le_refl _
theorem zjT{a:Str}(h:zo a=[]):zdc a=11:=by unfold zdc;rw[if_pos (Or.inl h)]
theorem zmb{a:Str}(h:zo a≠[])(h0:at0 (zo a) 0=48)(h1:a≠[48]):zdc a=11:=by
 unfold zdc;rw[if_pos (Or.inr (Or.inl ⟨by rw[zbP h,h0],h1⟩))]
theorem ziV{a:Str}(h:¬ zay (zo a)):zdc a=11:=by
 have h':¬ (∀ c∈zo a,zar c=true):=h
 unfold zdc;rw[if_pos (Or.inr (Or.inr h'))]
theorem zmc{a:Str}(h:zo a≠[])(h0:at0 (zo a) 0≠48)(hd:zay (zo a)):zdc a=if 300<(zo a).length then 4 else 0:=by
 unfold zdc
 rw[if_neg]
 rintro(e | ⟨e,_⟩ | e)
 ·exact h e
 ·rw[zbP h]at e;exact h0 (Option.some.inj e)
 ·exact e hd
theorem zqq:zdc [48]=0:=by rw[← zae,zcc];rw[show lim 0=false from by rw[za1];unfold big;exact Nat.pow_pos (by decide)];rfl
theorem zka:(10:Nat) ^ 18=1000000000000000000:=by decide
theorem zaC{x:Int}(h:(itoa x).length≤18):x.natAbs<1000000000000000000:=by
 rw[← zka,← zm _ 18 (by decide)]
 by_cases hx:x<0
 ·rw[itoa_neg hx,List.length_cons]at h;omega
 ·rw[itoa_nonneg (by omega)]at h;rw[show x.natAbs=x.toNat by omega];exact h
theorem zca{x:Int}(h:x.natAbs<1000000000000000000):lim x=false:=by
 rw[za1];unfold big
 have:10 ^ 18≤10 ^ maxD:=Nat.pow_le_pow_right (by decide) (by rw[maxD_eq];decide)
 rw[zka]at this;omega
theorem zbo{x:Int}(h:(itoa x).length≤18):lim x=false:=zca (zaC h)
theorem zjS{x:Int}(h:x.natAbs<100000000000000000):(itoa x).length≤18:=by
 have h17:(decDigits x.natAbs).length≤17:=(zm _ 17 (by decide)).2 (by simpa using h)
 by_cases hx:x<0
 ·rw[itoa_neg hx,List.length_cons];omega
 ·rw[itoa_nonneg (by omega),show x.toNat=x.natAbs by omega];omega
theorem zqh(x:Int):itoa x≠[]:=by
 by_cases hx:x<0
 ·rw[itoa_neg hx];simp
 ·rw[itoa_nonneg (by omega)];exact zat _
theorem zdk(x:Int):(decDigits x.natAbs).length≤(itoa x).length:=by
 by_cases hx:x<0
 ·rw[itoa_neg hx,List.length_cons];omega
 ·rw[itoa_nonneg (by omega),show x.toNat=x.natAbs by omega];omega
theorem zlP{x y:Int}(h:(itoa x).length+(itoa y).length≤18):-1000000000000000000≤x*y∧x*y≤1000000000000000000:=by
 have h1:=zdk x
 have h2:=zdk y
 have p1:=List.length_pos_iff.2 (zat x.natAbs)
 have p2:=List.length_pos_iff.2 (zat y.natAbs)
 have a1:=(zm x.natAbs (decDigits x.natAbs).length p1).1 (Nat.le_refl _)
 have a2:=(zm y.natAbs (decDigits y.natAbs).length p2).1 (Nat.le_refl _)
 have h3:x.natAbs*y.natAbs≤10 ^ (decDigits x.natAbs).length*10 ^ (decDigits y.natAbs).length:=Nat.mul_le_mul (by omega) (by omega)
 rw[← Nat.pow_add]at h3
 have h4:10 ^ ((decDigits x.natAbs).length+(decDigits y.natAbs).length)≤10 ^ 18:=Nat.pow_le_pow_right (by decide) (by omega)
 rw[zka]at h4
 rw[← Int.natAbs_mul]at h3
 omega
theorem zcW{x y q r:Int}(h:x=y*q+r)(hr:(0≤r∧r<y)∨(y<r∧r≤0)):x.fdiv y=q∧x.fmod y=r:=by
 have key:x.fdiv y=q:=by
  rcases hr with⟨h0,h1⟩|⟨h0,h1⟩
  ·rw[Int.fdiv_eq_ediv_of_nonneg _ (by omega),h,Int.add_comm,Int.add_mul_ediv_left _ _ (by omega),Int.ediv_eq_zero_of_lt h0 h1];omega
  ·rw[← Int.neg_fdiv_neg,Int.fdiv_eq_ediv_of_nonneg _ (by omega),h,show -(y*q+r) = -r+(-y)*q by rw[Int.neg_mul];omega,Int.add_mul_ediv_left _ _ (by omega),Int.ediv_eq_zero_of_lt (by omega) (by omega)];omega
 refine⟨key,?_⟩
 rw[Int.fmod_def,key];omega
theorem zmx{x y:Int}(hy:y≠0) :
  (x.tmod y=0→x.fdiv y=x.tdiv y∧x.fmod y=x.tmod y) ∧
  (x.tmod y≠0→(decide (x.tmod y<0) == decide (y<0))=true→x.fdiv y=x.tdiv y∧x.fmod y=x.tmod y) ∧
  (x.tmod y≠0→(decide (x.tmod y<0) == decide (y<0))=false→x.fdiv y=x.tdiv y - 1∧x.fmod y=x.tmod y+y):=by
 have h:=Int.tmod_add_mul_tdiv x y
 have hl:(x.tmod y).natAbs<y.natAbs:=by rw[Int.natAbs_tmod];exact Nat.mod_lt _ (by omega)
 generalize x.tmod y=r at *
 generalize x.tdiv y=q at *
 refine⟨fun e=>zcW (by omega) (by omega),fun e d=>zcW (by omega) ?_,fun e d=>zcW (by rw[Int.mul_sub];omega) ?_⟩
 ·by_cases a:r<0 <;> by_cases b:y<0 <;> simp[a,b]at d <;> omega
 ·by_cases a:r<0 <;> by_cases b:y<0 <;> simp[a,b]at d <;> omega
theorem znv(x y:Int):(x.tdiv y).natAbs≤x.natAbs:=by
 rw[Int.natAbs_tdiv];exact Nat.div_le_self _ _
theorem zq6(x y:Int)(hy:y≠0):(x.tmod y).natAbs<y.natAbs:=by
 rw[Int.natAbs_tmod];exact Nat.mod_lt _ (by omega)
end Kp
