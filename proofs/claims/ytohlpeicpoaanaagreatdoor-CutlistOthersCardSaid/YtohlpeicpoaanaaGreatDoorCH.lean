/-
  The members of the example of chapter 42; rational.Int.; The map of the example of chapter 42.; The example of chapter 42: the members' lengths.
-/
import Derived.Test.YtohlpeicpoaanaaGreatDoorVZ3
import Derived.Test.YtohlpeicpoaanaaGreatDoorCC
import Derived.Maps.RangeRun
import Derived.OwnWalk
namespace Go.Proofs.YtohlpeicpoaanaaGreatDoor
section
open Go.RowKit Kp
theorem mok42:MOk 1 60 180:=⟨by decide,by decide,by decide,by decide,by decide,by decide⟩
theorem aw42_Round (t:P3) (bt:B3 1 t) (hne:awF≠t) (hsub:t.sub awF=t) (s:Rat) (hsq:t.sq=s) (bs:Bd 16 s) (ps:0<s.num) (x:Rat) (l:Nat) (hx:aOf s*(1 / 1)=x) (hl:leftOf s=l) (hp:PTerm x l) (hV:sqN x l<10 ^ 8*(x.den*x.den)) (n:Nat) (hc:cei x l=n) (w:World) (hE:Env w) :
  Calls Tryz.prog 47 #[VM 1 60 180 awF t,.string ⟨#[49]⟩] w fun e w'=>e=.returned (.tuple #[.string ⟨(Lib.itoa (n:Int)).toArray⟩,.int .i64 0])∧Q w w':=by
 have h:=true_Round (m:=1) (by decide) 1 60 180 mok42 awF t awF_b bt (by decide) hne w hE (by rw [hsub]; exact bt) (by rw [hsub,hsq]; exact bs) (by rw [hsub,hsq]; exact ps) 1 ⟨by decide,by decide⟩ (by decide)
  (by rw [hsub,hsq,hx,hl]; exact hp) (by rw [hsub,hsq,hx,hl]; exact hV)
 rw [hsub,hsq,hx,hl,hc,Rat.mul_one,rstr_nat,rstr_one] at h
 exact h
theorem aw42_Check (t:P3) (bt:B3 1 t) (hne:awF≠t) (w:World) (hE:Env w):Calls Tryz.prog 46 #[VM 1 60 180 awF t] w fun e w'=>e=.returned (.int .i64 0)∧Q w w' :=
 hip_Check 1 60 180 mok42 awF t awF_b bt (by decide) hne w hE
theorem normM_25:normM 25=(5,1):=by simp [normM,stripAll,primesL,stripP,isqrt]
theorem normM_2:normM 2=(1,2):=by simp [normM,stripAll,primesL,stripP,isqrt]
theorem nd25:(25:Rat).num.toNat*(25:Rat).den=25:=by kernel_rfl
theorem nd2:(2:Rat).num.toNat*(2:Rat).den=2:=by kernel_rfl
theorem a25:aOf 25*(1 / 1)=5∧leftOf 25=1:=by unfold aOf leftOf; rw [nd25,normM_25]; exact ⟨by kernel_rfl,rfl⟩
theorem a2:aOf 2*(1 / 1)=1∧leftOf 2=2:=by unfold aOf leftOf; rw [nd2,normM_2]; exact ⟨by kernel_rfl,rfl⟩
theorem term_5:PTerm 5 1:=by
 have hb:Bd 2 (5:Rat):=⟨by decide,by decide⟩
 exact ⟨⟨hb.rlim (by decide),by decide,by have:=longV_bd hb (by decide); omega,norm_one,(show Bd 40 ((1:Nat):Rat) from ⟨by decide,by decide⟩)⟩,by decide,hb.mono (by decide),by decide,by decide⟩
theorem cei_5:cei 5 1=5:=by
 have hF:=flo_is 5 1
 unfold cei
 rw [show sqN 5 1=25 from rfl,show (5:Rat).den=1 from rfl] at *
 obtain ⟨h1,h2⟩:=hF
 have h3:flo 5 1=5:=by
  generalize flo 5 1=F at *
  rcases Nat.lt_or_ge F 6 with h | h
  ·rcases (show F=0∨F=1∨F=2∨F=3∨F=4∨F=5 by omega) with rfl | rfl | rfl | rfl | rfl | rfl <;> omega
  ·have:=Nat.mul_le_mul h h
   omega
 rw [h3]; rfl
theorem norm_two:NormL 2:=⟨by decide,normM_2⟩
theorem term_1:PTerm 1 2:=by
 have hb:Bd 2 (1:Rat):=⟨by decide,by decide⟩
 exact ⟨⟨hb.rlim (by decide),by decide,by have:=longV_bd hb (by decide); omega,norm_two,(show Bd 40 ((2:Nat):Rat) from ⟨by decide,by decide⟩)⟩,by decide,hb.mono (by decide),by decide,by decide⟩
theorem cei_1:cei 1 2=2:=by
 have hF:=flo_is 1 2
 unfold cei
 rw [show sqN 1 2=2 from rfl,show (1:Rat).den=1 from rfl] at *
 obtain ⟨h1,h2⟩:=hF
 have h3:flo 1 2=1:=by
  generalize flo 1 2=F at *
  rcases Nat.lt_or_ge F 2 with h | h
  ·rcases (show F=0∨F=1 by omega) with rfl | rfl <;> omega
  ·have:=Nat.mul_le_mul h h
   omega
 rw [h3]; rfl
structure Ex (x y:UInt8) (n:Nat):Prop where
 chk:∀ w,Env w→Calls Tryz.prog 46 #[.agg #[.int .i64 1,.int .i64 0,.int .i64 (-1),.string ⟨#[48]⟩,.string ⟨#[48]⟩,.string ⟨#[48]⟩,.string ⟨#[x]⟩,.string ⟨#[y]⟩,.string ⟨#[48]⟩,.int .i64 60,.int .i64 180]] w fun e w'=>e=.returned (.int .i64 0)∧Q w w'
 rnd:∀ w,Env w→Calls Tryz.prog 47 #[.agg #[.int .i64 1,.int .i64 0,.int .i64 (-1),.string ⟨#[48]⟩,.string ⟨#[48]⟩,.string ⟨#[48]⟩,.string ⟨#[x]⟩,.string ⟨#[y]⟩,.string ⟨#[48]⟩,.int .i64 60,.int .i64 180],.string ⟨#[49]⟩] w fun e w'=>e=.returned (.tuple #[.string ⟨(Lib.itoa (n:Int)).toArray⟩,.int .i64 0])∧Q w w'
theorem ex_of (x y:UInt8) (n:Nat) (t:P3) (bt:B3 1 t) (hne:awF≠t) (hsub:t.sub awF=t) (s:Rat) (hsq:t.sq=s) (bs:Bd 16 s) (ps:0<s.num) (z:Rat) (l:Nat) (hx:aOf s*(1 / 1)=z) (hl:leftOf s=l) (hp:PTerm z l) (hV:sqN z l<10 ^ 8*(z.den*z.den)) (hc:cei z l=n)
  (h1:rstr t.x=[x]) (h2:rstr t.y=[y]) (h3:t.z=0):Ex x y n:=by
 have e:VM 1 60 180 awF t=.agg #[.int .i64 1,.int .i64 0,.int .i64 (-1),.string ⟨#[48]⟩,.string ⟨#[48]⟩,.string ⟨#[48]⟩,.string ⟨#[x]⟩,.string ⟨#[y]⟩,.string ⟨#[48]⟩,.int .i64 60,.int .i64 180]:=by
  unfold VM awF
  simp only [rstr_zero,h1,h2,h3]
 exact ⟨fun w hE=>by have h:=aw42_Check t bt hne w hE; rwa [e] at h,fun w hE=>by have h:=aw42_Round t bt hne hsub s hsq bs ps z l hx hl hp hV n hc w hE; rwa [e] at h⟩
theorem rat_num1 {a:Nat} (h:a<10):Bd 1 (a:Rat):=⟨by rw [Rat.num_natCast,Int.natAbs_natCast]; exact h,by rw [Rat.den_natCast]; decide⟩
theorem rstr_dig (a:Nat):rstr (a:Rat)=Lib.decDigits a:=by rw [rstr_nat,← dec_eq_itoa]
theorem ex_34:Ex 51 52 5:=ex_of 51 52 5 ⟨(3:Nat),(4:Nat),0⟩ ⟨rat_num1 (by decide),rat_num1 (by decide),bd_zero (by decide)⟩ (by decide) (by kernel_rfl) 25 (by kernel_rfl) ⟨by decide,by decide⟩ (by decide) 5 1 a25.1 a25.2 term_5 (by decide) cei_5 (by rw [rstr_dig]; simp [Lib.decDigits]) (by rw [rstr_dig]; simp [Lib.decDigits]) rfl
theorem ex_50:Ex 53 48 5:=ex_of 53 48 5 ⟨(5:Nat),0,0⟩ ⟨rat_num1 (by decide),bd_zero (by decide),bd_zero (by decide)⟩ (by decide) (by kernel_rfl) 25 (by kernel_rfl) ⟨by decide,by decide⟩ (by decide) 5 1 a25.1 a25.2 term_5 (by decide) cei_5 (by rw [rstr_dig]; simp [Lib.decDigits]) rstr_zero rfl
theorem ex_11:Ex 49 49 2:=ex_of 49 49 2 ⟨(1:Nat),(1:Nat),0⟩ ⟨rat_num1 (by decide),rat_num1 (by decide),bd_zero (by decide)⟩ (by decide) (by kernel_rfl) 2 (by kernel_rfl) ⟨by decide,by decide⟩ (by decide) 1 2 a2.1 a2.2 term_1 (by decide) cei_1 (by rw [rstr_dig]; simp [Lib.decDigits]) (by rw [rstr_dig]; simp [Lib.decDigits]) rfl
end
section
open Go.RowKit Kp
def K15:Value:=.agg #[.int .i64 60,.int .i64 180,.int .i64 15]
def K12:Value:=.agg #[.int .i64 60,.int .i64 180,.int .i64 12]
theorem mp_und (w:World):(underlying 84).run Tryz.prog w=.ok (.map 87 40) w:=by kernel_rfl
theorem mp_key15 (w:World):(Instr.checkKey false 10000 87 K15).run Tryz.prog w=.ok () w:=by kernel_rfl
theorem mp_key12 (w:World):(Instr.checkKey false 10000 87 K12).run Tryz.prog w=.ok () w:=by kernel_rfl
theorem mp_zero (w:World):(zeroValue 40).run Tryz.prog w=.ok (.slice none 0 0) w:=by kernel_rfl
theorem mp_find0 (w:World):(Instr.findKey 87 K15 []).run Tryz.prog w=.ok none w:=by kernel_rfl
theorem mp_find1 (v:Value) (w:World):(Instr.findKey 87 K15 [⟨K15,v,0⟩]).run Tryz.prog w=.ok (some (0,v)) w:=by kernel_rfl
theorem mp_find2 (v:Value) (w:World):(Instr.findKey 87 K12 [⟨K15,v,0⟩]).run Tryz.prog w=.ok none w:=by kernel_rfl
theorem mp_stays (w:World):(Instr.keyThatStays K15 K15).run Tryz.prog w=.ok K15 w:=by kernel_rfl
theorem run_set_map {r c:Nat} {es:Array MapEntry} {w:World} (h:w.heap[r]?=some (.map es c)) (o:Obj):(setObj r o).run Tryz.prog w=.ok () (w.putObj r o):=by
 simp [setObj,Sem.run,h,World.putObj]
theorem me_new0 {r:Nat} {w:World} (h:w.heap[r]?=some (.map #[] 0)):(Instr.mapEntry 84 (.map (some r)) K15).run Tryz.prog w=.ok (.tuple #[.slice none 0 0,.int .i64 0]) (w.putObj r (.map #[⟨K15,.slice none 0 0,0⟩] 1)):=by
 simp only [Instr.mapEntry,getObj,Sem.run_bind,mp_und,Result.andThen_ok,Sem.run,h,mp_key15,mp_find0,mp_zero,run_set_map h]
 rfl
theorem me_old {r:Nat} {v:Value} {w:World} (h:w.heap[r]?=some (.map #[⟨K15,v,0⟩] 1)):(Instr.mapEntry 84 (.map (some r)) K15).run Tryz.prog w=.ok (.tuple #[v,.int .i64 0]) (w.putObj r (.map #[⟨K15,v,0⟩] 1)):=by
 simp only [Instr.mapEntry,getObj,Sem.run_bind,mp_und,Result.andThen_ok,Sem.run,h,mp_key15,mp_find1]
 rw [show (Option.map (fun x=>x.key) (#[({ key:=K15,val:=v,born:=0 }:MapEntry)][0]?)).getD K15=K15 from rfl,mp_stays,Result.andThen_ok]
 simp only [run_set_map h,Result.andThen_ok]
 rfl
theorem me_new1 {r:Nat} {v:Value} {w:World} (h:w.heap[r]?=some (.map #[⟨K15,v,0⟩] 1)):(Instr.mapEntry 84 (.map (some r)) K12).run Tryz.prog w=.ok (.tuple #[.slice none 0 0,.int .i64 1]) (w.putObj r (.map #[⟨K15,v,0⟩,⟨K12,.slice none 0 0,1⟩] 2)):=by
 simp only [Instr.mapEntry,getObj,Sem.run_bind,mp_und,Result.andThen_ok,Sem.run,h,mp_key12,mp_find2,mp_zero,run_set_map h]
 rfl
theorem as_int0 (n:Int) (w:World):(asInt (.int .i64 n)).run Tryz.prog w=.ok n w:=rfl
theorem es_0 {r:Nat} {v:Value} {w:World} (h:w.heap[r]?=some (.map #[⟨K15,v,0⟩] 1)) (u:Value):(Instr.entryStore 84 (.map (some r)) (.int .i64 0) u).run Tryz.prog w=.ok () (w.putObj r (.map #[⟨K15,u,0⟩] 1)):=by
 have e:(#[({ key:=K15,val:=v,born:=0 }:MapEntry)].findIdx? fun e=>(e.born:Int) == 0)=some 0:=by kernel_rfl
 simp only [Instr.entryStore,getObj,Sem.run_bind,Result.andThen_ok,Sem.run,h,as_int0,e,run_set_map h]
 rfl
theorem es_1 {r:Nat} {v v':Value} {w:World} (h:w.heap[r]?=some (.map #[⟨K15,v,0⟩,⟨K12,v',1⟩] 2)) (u:Value):(Instr.entryStore 84 (.map (some r)) (.int .i64 1) u).run Tryz.prog w=.ok () (w.putObj r (.map #[⟨K15,v,0⟩,⟨K12,u,1⟩] 2)):=by
 have e:(#[({ key:=K15,val:=v,born:=0 }:MapEntry),{ key:=K12,val:=v',born:=1 }].findIdx? fun e=>(e.born:Int) == 1)=some 1:=by kernel_rfl
 simp only [Instr.entryStore,getObj,Sem.run_bind,Result.andThen_ok,Sem.run,h,as_int0,e,run_set_map h]
 rfl
theorem run_range_map {r:Nat} {es:Array MapEntry} {w:World} (h:w.heap[r]?=some (.map es 2)):(Instr.range 84 (.map (some r))).run Tryz.prog w=.ok (.pointer (some ⟨w.heap.size,0,none⟩)) (w.alloc (.mapIter (some r) 2 #[] 2)):=by
 simp only [Instr.range,getObj,Sem.run_bind,mp_und,Result.andThen_ok,Sem.run,h]
 rfl
def Seen (c1 c2:Ct × Value) (L:List (Ct × Value)) (seen:Array Nat):Prop:=(L=[]∧seen=#[])∨(L=[c1]∧seen=#[0])∨(L=[c2]∧seen=#[1])∨(L=[c1,c2]∧seen=#[0,1])∨(L=[c2,c1]∧seen=#[1,0])
def pc1 (v:Value):Ct × Value:=(⟨60,180,15,[0,1]⟩,v)
def pc2 (v:Value):Ct × Value:=(⟨60,180,12,[2]⟩,v)
theorem seen_next {v1 v2:Value} {L:List (Ct × Value)} {seen:Array Nat} (hs:Seen (pc1 v1) (pc2 v2) L seen) (ty:TypeId) {I M:Nat} {w:World} (hI:w.heap[I]?=some (.mapIter (some M) 2 seen 2)) (hM:w.heap[M]?=some (.map #[⟨K15,v1,0⟩,⟨K12,v2,1⟩] 2)) :
  (L.length=2∧(Instr.next (.pointer (some ⟨I,0,none⟩)) false ty).run Tryz.prog w=.ok (.tuple #[.bool false]) w) ∨
  ∃ (d:Int) (u:Value) (c:Ct × Value) (i:Nat) (w1:World),L.length<2∧(w1=w∨w1=w.drew)∧(c=pc1 v1∨c=pc2 v2)∧(c.1.w=60∧c.1.d=180∧c.1.n=d∧c.2=u)∧(Instr.next (.pointer (some ⟨I,0,none⟩)) false ty).run Tryz.prog w=.ok (.tuple #[.bool true,.agg #[.int .i64 60,.int .i64 180,.int .i64 d],u]) (w1.putObj I (.mapIter (some M) 2 (seen.push i) 2)) ∧
   (∀ W:World,W.heap[I]?=some (.mapIter (some M) 2 (seen.push i) 2)→W.heap[M]?=some (.map #[⟨K15,v1,0⟩,⟨K12,v2,1⟩] 2)→(Instr.entry (.pointer (some ⟨I,0,none⟩))).run Tryz.prog W=.ok (.tuple #[.agg #[.int .i64 60,.int .i64 180,.int .i64 d],u]) W) ∧
   Seen (pc1 v1) (pc2 v2) (L++[c]) (seen.push i):=by
 have hn:=run_next_at (P:=Tryz.prog) w ty I M 2 2 seen #[⟨K15,v1,0⟩,⟨K12,v2,1⟩] 2 hI hM (by intro x hx; simp at hx; rcases hx with rfl | rfl <;> simp) (Nat.le_refl _)
 have he1:∀ W:World,W.heap[I]?=some (.mapIter (some M) 2 (seen.push 0) 2)→W.heap[M]?=some (.map #[⟨K15,v1,0⟩,⟨K12,v2,1⟩] 2)→(Instr.entry (.pointer (some ⟨I,0,none⟩))).run Tryz.prog W=.ok (.tuple #[.agg #[.int .i64 60,.int .i64 180,.int .i64 15],v1]) W:=fun W h1 h2 =>
  run_entry_at W I M 2 seen _ 2 ⟨K15,v1,0⟩ h1 h2 (by simp) (by simp)
 have he2:∀ W:World,W.heap[I]?=some (.mapIter (some M) 2 (seen.push 1) 2)→W.heap[M]?=some (.map #[⟨K15,v1,0⟩,⟨K12,v2,1⟩] 2)→(Instr.entry (.pointer (some ⟨I,0,none⟩))).run Tryz.prog W=.ok (.tuple #[.agg #[.int .i64 60,.int .i64 180,.int .i64 12],v2]) W:=fun W h1 h2 =>
  run_entry_at W I M 2 seen _ 2 ⟨K12,v2,1⟩ h1 h2 (by simp) (by simp)
 have f0:Go.leftOf #[(⟨K15,v1,0⟩:MapEntry),⟨K12,v2,1⟩] #[]=#[⟨K15,v1,0⟩,⟨K12,v2,1⟩]:=by kernel_rfl
 have f1:Go.leftOf #[(⟨K15,v1,0⟩:MapEntry),⟨K12,v2,1⟩] #[0]=#[⟨K12,v2,1⟩]:=by kernel_rfl
 have f2:Go.leftOf #[(⟨K15,v1,0⟩:MapEntry),⟨K12,v2,1⟩] #[1]=#[⟨K15,v1,0⟩]:=by kernel_rfl
 have f3:Go.leftOf #[(⟨K15,v1,0⟩:MapEntry),⟨K12,v2,1⟩] #[0,1]=#[]:=by kernel_rfl
 have f4:Go.leftOf #[(⟨K15,v1,0⟩:MapEntry),⟨K12,v2,1⟩] #[1,0]=#[]:=by kernel_rfl
 rcases hs with ⟨rfl,rfl⟩ | ⟨rfl,rfl⟩ | ⟨rfl,rfl⟩ | ⟨rfl,rfl⟩ | ⟨rfl,rfl⟩
 ·rcases hn with ⟨h0,_⟩ | ⟨e,he,w1,hw,hr⟩
  ·simp [f0] at h0
  ·simp [f0] at he
   rcases he with rfl | rfl
   ·exact .inr ⟨15,v1,pc1 v1,0,w1,by decide,hw,.inl rfl,⟨rfl,rfl,rfl,rfl⟩,hr,he1,.inr (.inl ⟨rfl,rfl⟩)⟩
   ·exact .inr ⟨12,v2,pc2 v2,1,w1,by decide,hw,.inr rfl,⟨rfl,rfl,rfl,rfl⟩,hr,he2,.inr (.inr (.inl ⟨rfl,rfl⟩))⟩
 ·rcases hn with ⟨h0,_⟩ | ⟨e,he,w1,hw,hr⟩
  ·simp [f1] at h0
  ·simp [f1] at he
   subst he
   exact .inr ⟨12,v2,pc2 v2,1,w1,by simp,hw,.inr rfl,⟨rfl,rfl,rfl,rfl⟩,hr,he2,.inr (.inr (.inr (.inl ⟨rfl,rfl⟩)))⟩
 ·rcases hn with ⟨h0,_⟩ | ⟨e,he,w1,hw,hr⟩
  ·simp [f2] at h0
  ·simp [f2] at he
   subst he
   exact .inr ⟨15,v1,pc1 v1,0,w1,by simp,hw,.inl rfl,⟨rfl,rfl,rfl,rfl⟩,hr,he1,.inr (.inr (.inr (.inr ⟨rfl,rfl⟩)))⟩
 ·rcases hn with ⟨_,hr⟩ | ⟨e,he,w1,hw,hr⟩
  ·exact .inl ⟨rfl,hr⟩
  ·simp [f3] at he
 ·rcases hn with ⟨_,hr⟩ | ⟨e,he,w1,hw,hr⟩
  ·exact .inl ⟨rfl,hr⟩
  ·simp [f4] at he
end
section
open Go.RowKit Kp Go.Sort
def exC (x y:UInt8):List Value:=[.int .i64 1,.int .i64 0,.int .i64 (-1),.string ⟨#[48]⟩,.string ⟨#[48]⟩,.string ⟨#[48]⟩,.string ⟨#[x]⟩,.string ⟨#[y]⟩,.string ⟨#[48]⟩,.int .i64 60,.int .i64 180]
def exN (k:Nat):Nat:=if k<2 then 5 else 2
def ExAt (w:World) (B:Nat):Prop:=B<w.heap.size∧∀ k,k<3→∃ x y,Ex x y (exN k)∧∀ j z,(exC x y)[j]?=some z→w.cell? ⟨B,k*11+j,none⟩=some z
theorem ExAt.keep {w w':World} {B:Nat} (h:ExAt w B) (hq:Q w w'):ExAt w' B:=by
 refine ⟨Nat.lt_of_lt_of_le h.1 hq.size,fun k hk=>?_⟩
 obtain ⟨x,y,he,hc⟩:=h.2 k hk
 exact ⟨x,y,he,fun j z hj=>qcell hq (hc j z hj)⟩
theorem ExAt.of {w:World} {B:Nat} {t:TypeId} (h:Blk w B (exC 51 52++exC 53 48++exC 49 49) t):ExAt w B:=by
 refine ⟨h.lt,fun k hk=>?_⟩
 have hl:∀ j z (x y:UInt8),(exC x y)[j]?=some z→j<11:=fun j z x y hj=>(List.getElem?_eq_some_iff.1 hj).1
 rcases (show k=0∨k=1∨k=2 by omega) with rfl | rfl | rfl
 ·refine ⟨51,52,ex_34,fun j z hj=>?_⟩
  rw [h.cell,Nat.zero_mul,Nat.zero_add,List.append_assoc,List.getElem?_append_left (hl j z _ _ hj)]; exact hj
 ·refine ⟨53,48,ex_50,fun j z hj=>?_⟩
  have:=hl j z _ _ hj
  rw [h.cell,List.append_assoc,List.getElem?_append_right (by show 11≤_; omega),show 1*11+j - (exC 51 52).length=j by show 1*11+j - 11=j; omega,List.getElem?_append_left this]; exact hj
 ·refine ⟨49,49,ex_11,fun j z hj=>?_⟩
  rw [h.cell,List.getElem?_append_right (by show 22≤_; omega),show 2*11+j - (exC 51 52++exC 53 48).length=j by show 2*11+j - 22=j; omega]; exact hj
theorem of_unfit {x y:UInt8} {n:Nat} (h:Ex x y n) (w:World) (hE:Env w):Calls Tryz.prog 45 #[.agg (exC x y).toArray] w fun e w'=>e=.returned (.bool false)∧Q w w':=by
 have HC:=LH h.chk
 clear h
 unfold exC
 generalize (⟨#[x]⟩:ByteArray)=X at *
 generalize (⟨#[y]⟩:ByteArray)=Y at *
 go_enter Tryz.func45,Tryz.ntmps45
 have hQ0:=Q.refl w
 go_wp2_with fail
 refine (HC.out _ (hE.ofQ bt)).mono ?_
 rintro e w1 ⟨rfl,hq1⟩
 have hs1:Q w w1:=Q.trans bt hq1
 have hQ1:Q w w1:=Q.trans hQ0 hs1
 go_wp2
 go_ret
 exact ⟨rfl,bt⟩
set_option maxRecDepth 100000 in
set_option maxHeartbeats 1000000 in
theorem of_index (B:Nat) (w:World) (hE:Env w) (hx:ExAt w B) :
  Calls Tryz.prog 63 #[.slice (some ⟨B,0,none⟩) 3 3,.func (.func 45) #[] #[]] w fun e w'=>e=.returned (.int .i64 (-1))∧Q w w':=by
 have HX:Hid (∀ W,Q w W→ExAt W B):=LH (fun W hq=>hx.keep hq)
 clear hx
 go_enter Tryz.func63,Tryz.ntmps63
 go_wp2
 go_loopw [8] (fun i wr=>∃ k:Nat,k≤3∧i=.int .i64 k∧Q w wr) (fun i _=>3 - (intOf i).toNat)
 case atStart=>exact ⟨0,by omega,rfl,Q.refl _⟩
 case round =>
  obtain ⟨k,hk,rfl,hQ⟩:=hrel
  by_cases hlt:k<3
  ·obtain ⟨x,y,he,hc⟩:=(HX.out _ hQ).2 k hlt
   have c0:wr.cell? ⟨B,k*11,none⟩=some (.int .i64 1):=hc 0 _ rfl
   have c1:=hc 1 _ rfl
   have c2:=hc 2 _ rfl
   have c3:=hc 3 _ rfl
   have c4:=hc 4 _ rfl
   have c5:=hc 5 _ rfl
   have c6:=hc 6 _ rfl
   have c7:=hc 7 _ rfl
   have c8:=hc 8 _ rfl
   have c9:=hc 9 _ rfl
   have c10:=hc 10 _ rfl
   have HU:=LH (fun w hw=>of_unfit he w hw)
   unfold exC at HU
   generalize (⟨#[x]⟩:ByteArray)=X at *
   generalize (⟨#[y]⟩:ByteArray)=Y at *
   have hkz:(k:Int)<3:=by omega
   have hk0:(0:Int)≤k:=by omega
   clear hc HX he
   go_wp2_with fail
   refine (HU.out _ (hE.ofQ hQ)).mono ?_
   rintro e w2 ⟨rfl,hq2⟩
   have hQ2:=Q.trans hQ hq2
   go_wp2
   go_roundw
   case rel=>exact ⟨k+1,by omega,by go_num,hQ2⟩
   case measure=>simp [intOf]; omega
  ·obtain rfl:k=3:=by omega
   clear HX
   go_wp2
   go_ret
   exact ⟨rfl,hQ⟩
theorem of_contains (B:Nat) (w:World) (hE:Env w) (hx:ExAt w B) :
  Calls Tryz.prog 44 #[.slice (some ⟨B,0,none⟩) 3 3,.func (.func 45) #[] #[]] w fun e w'=>e=.returned (.bool false)∧Q w w':=by
 have HI:=LH (fun w hw h=>of_index B w hw h)
 go_enter Tryz.func44,Tryz.ntmps44
 go_wp2_with fail
 refine (HI.out _ hE hx).mono ?_
 rintro e w1 ⟨rfl,hq1⟩
 go_wp2
 go_ret
 exact ⟨rfl,hq1⟩
def exS (k:Nat):Str:=Lib.itoa (exN k:Int)
def exL (k:Nat):List Value:=(List.range k).map fun i=>.string ⟨(exS i).toArray⟩
theorem exL_step (k:Nat):exL (k+1)=exL k++[.string ⟨(exS k).toArray⟩]:=by unfold exL; rw [List.range_succ,List.map_append]; rfl
theorem infoNum:(Tryz.prog.info? 55).map (fun i=>(i.zero,i.size,i.bytes))=some (some (.string ⟨#[]⟩),1,16):=by kernel_rfl
theorem infoCut:(Tryz.prog.info? 42).map (fun i=>(i.zero,i.size,i.bytes))=some (some (.agg #[.int .i64 0,.int .i64 0,.int .i64 0,.slice none 0 0]),4,48):=by kernel_rfl
end
end Go.Proofs.YtohlpeicpoaanaaGreatDoor
