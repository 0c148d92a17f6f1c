/-
  The mathematics of timber's sizes: no program.; Lists of pieces to cut: when they are right, their order; no program.
-/
import Derived.Test.YtohlpeicpoaanaaGreatDoorMA
import Derived.Lib.Small
namespace Kp
structure Sz where
 k:Int
 w:Int
 d:Int
deriving DecidableEq
def Sz.ok (s:Sz):Prop:=1≤s.k∧s.k≤12∧1≤s.w∧s.w≤1000∧1≤s.d∧s.d≤1000
instance (s:Sz):Decidable s.ok:=by unfold Sz.ok; infer_instance
end Kp
namespace Kp
open Go.Lib (decDigits itoa nDigits compareInt)
structure Ct where
 w:Int
 d:Int
 n:Int
 ms:List Int
def ct0:Ct:=⟨0,0,0,[]⟩
def ctAt (l:List Ct) (i:Nat):Ct:=l.getD i ct0
def atI (l:List Int) (i:Nat):Int:=l.getD i 0
theorem ctAt_get {l:List Ct} {i:Nat} (h:i<l.length):ctAt l i=l[i]:=by unfold ctAt; rw [List.getD_eq_getElem?_getD,List.getElem?_eq_getElem h]; rfl
theorem atI_get {l:List Int} {i:Nat} (h:i<l.length):atI l i=l[i]:=by unfold atI; rw [List.getD_eq_getElem?_getD,List.getElem?_eq_getElem h]; rfl
def outF (n m:Int):Bool:=decide (n<1) || decide (m<n)
def offF (m:Int):Bool:=decide (m<0) || decide (512≤m)
def ascF (l:List Int):Bool:=(List.range (l.length - 1)).all fun i=>decide (atI l i<atI l (i+1))
theorem asc_yes {l:List Int} (h:∀ i,i+1<l.length→atI l i<atI l (i+1)):ascF l=true:=by
 unfold ascF
 rw [List.all_eq_true]
 intro i hi
 rw [List.mem_range] at hi
 exact decide_eq_true (h i (by omega))
theorem asc_at {l:List Int} (h:ascF l=true) {i:Nat} (hi:i+1<l.length):atI l i<atI l (i+1):=by
 unfold ascF at h
 rw [List.all_eq_true] at h
 exact of_decide_eq_true (h i (List.mem_range.2 (by omega)))
theorem asc_no {l:List Int} {i:Nat} (hi:i+1<l.length) (h:atI l (i+1)≤atI l i):ascF l=false:=by
 rw [Bool.eq_false_iff]
 intro ha
 have:=asc_at ha hi
 omega
theorem asc_lt {l:List Int} (h:ascF l=true) {i:Nat}:∀ {m:Nat},i<m→m<l.length→atI l i<atI l m
 | 0,hi,_=>absurd hi (Nat.not_lt_zero _)
 | m+1,hi,hm=>by
  have h1:=asc_at h hm
  rcases Nat.lt_or_ge i m with h2 | h2
  ·exact Int.lt_trans (asc_lt h h2 (by omega)) h1
  ·obtain rfl:i=m:=by omega
   exact h1
theorem asc_new {l:List Int} (h:ascF l=true) {m:Nat} (hm:m<l.length):¬ atI l m∈l.take m:=by
 intro hx
 obtain ⟨i,hi,he⟩:=List.mem_iff_getElem.1 hx
 rw [List.length_take] at hi
 have:=asc_lt h (show i<m by omega) hm
 rw [List.getElem_take,← atI_get (by omega)] at he
 omega
theorem take_at {l:List Int} {m:Nat} (hm:m<l.length):l.take (m+1)=l.take m++[atI l m]:=by rw [List.take_succ_eq_append_getElem hm,atI_get hm]
def orF:List Int→Int
 | []=>0
 | c::r=>if c=0 then orF r else c
def ordF (a b:Ct):Int:=orF [compareInt a.w b.w,compareInt a.d b.d,compareInt b.n a.n,compareInt (atI a.ms 0) (atI b.ms 0)]
def pieceF (x:Ct):Int :=
 if (outF x.w 1000 || (outF x.d 1000 || outF x.n 1048576))=true then 2 else if x.ms.length=0 then 5 else if x.ms.any offF=true then 2 else if ascF x.ms=true then 0 else 10
def badF:Option Ct→Ct→Bool
 | none,_=>false
 | some q,x=>decide (0≤ordF q x)
def chkL:List Ct→Option Ct→List Int→Int
 | [],_,_=>0
 | x::l,p,S=>if pieceF x≠0 then pieceF x else if badF p x=true then 10 else if x.ms.any (fun m=>decide (m∈S))=true then 7 else chkL l (some x) (S++x.ms)
def chkF (l:List Ct):Int:=if 512<l.length then 4 else chkL l none []
def memb (l:List Ct) (k:Nat):List Int:=(l.take k).flatMap (·.ms)
def chkK (l:List Ct) (k:Nat):Int:=chkL (l.drop k) (if k=0 then none else some (ctAt l (k - 1))) (memb l k)
theorem chkK_zero (l:List Ct):chkK l 0=chkL l none []:=rfl
theorem chkK_end (l:List Ct):chkK l l.length=0:=by unfold chkK; rw [List.drop_length,chkL]
theorem memb_step {l:List Ct} {k:Nat} (h:k<l.length):memb l (k+1)=memb l k++(ctAt l k).ms:=by
 unfold memb
 rw [List.take_succ_eq_append_getElem h,List.flatMap_append,ctAt_get h]
 simp
theorem chkK_step {l:List Ct} {k:Nat} (h:k<l.length):chkK l k=if pieceF (ctAt l k)≠0 then pieceF (ctAt l k) else if (decide (0<k) && decide (0≤ordF (ctAt l (k - 1)) (ctAt l k)))=true then 10
  else if (ctAt l k).ms.any (fun m=>decide (m∈memb l k))=true then 7 else chkK l (k+1):=by
 have hd:l.drop k=ctAt l k::l.drop (k+1):=by rw [ctAt_get h,List.drop_eq_getElem_cons h]
 conv=>lhs; unfold chkK; rw [hd,chkL]
 congr 1
 have h1:badF (if k=0 then none else some (ctAt l (k - 1))) (ctAt l k)=(decide (0<k) && decide (0≤ordF (ctAt l (k - 1)) (ctAt l k))):=by
  by_cases h0:k=0
  ·subst h0; rfl
  ·rw [if_neg h0,show decide (0<k)=true by simpa using Nat.pos_of_ne_zero h0]; rfl
 rw [h1]
 congr 1
 congr 1
 unfold chkK
 rw [if_neg (by omega),memb_step h]; rfl
end Kp
