/-
  Walks: limbs and small helpers of the packages integer and rational.
-/
import Derived.Test.YtohlpeicpoaanaaGreatDoorEnv
import Derived.Test.YtohlpeicpoaanaaGreatDoorMA
namespace Go.Proofs.YtohlpeicpoaanaaGreatDoor
open Go.RowKit Kp
set_option maxHeartbeats 400000 in
theorem integer_plus (x y c:Int) (w:World) (hx:0≤x) (hx1:x<1000000000) (hy:0≤y) (hy1:y<1000000000) (hc:0≤c) (hc1:c≤1) :
  Calls Tryz.prog 241 #[.int .i64 x,.int .i64 y,.int .i64 c] w fun e w'=>e=.returned (.tuple #[.int .i64 ((x+y+c) % 1000000000),.int .i64 ((x+y+c) / 1000000000)])∧w=w':=by
 go_enter Tryz.func241,Tryz.ntmps241
 go_wp2
 go_ret2
 exact ⟨rfl,rfl⟩
set_option maxHeartbeats 400000 in
theorem integer_minus_pos (x y c:Int) (w:World) (hx1:x<1000000000) (hy:0≤y) (hc:0≤c) (hn:0≤x - y - c) :
  Calls Tryz.prog 242 #[.int .i64 x,.int .i64 y,.int .i64 c] w fun e w'=>e=.returned (.tuple #[.int .i64 (x - y - c),.int .i64 0])∧w=w':=by
 go_enter Tryz.func242,Tryz.ntmps242
 go_wp2
 go_ret2
 exact ⟨rfl,rfl⟩
set_option maxHeartbeats 400000 in
theorem integer_minus_neg (x y c:Int) (w:World) (hx:0≤x) (hx1:x<1000000000) (hy:0≤y) (hy1:y<1000000000) (hc:0≤c) (hc1:c≤1) (hn:x - y - c<0) :
  Calls Tryz.prog 242 #[.int .i64 x,.int .i64 y,.int .i64 c] w fun e w'=>e=.returned (.tuple #[.int .i64 (x - y - c+1000000000),.int .i64 1])∧w=w':=by
 go_enter Tryz.func242,Tryz.ntmps242
 go_wp2
 go_ret2
 exact ⟨rfl,rfl⟩
def GcdRel (w:World) (g:Nat) (x y:Value) (wr:World):Prop :=
 ∃ (n:Nat) (p q:Nat),x=.int .i64 p∧y=.int .i64 q∧p≤9223372036854775807∧q≤9223372036854775807∧Nat.gcd p q=g∧wr=w.drewN n
theorem gcd_step (a b:Nat):Nat.gcd a b=Nat.gcd b (a % b):=by rw [Nat.gcd_comm a b,Nat.gcd_rec b a,Nat.gcd_comm]
set_option maxHeartbeats 400000 in
theorem rational_gcd (a b:Nat) (w:World) (ha1:a≤9223372036854775807) (hb1:b≤9223372036854775807) :
  Calls Tryz.prog 133 #[.int .i64 a,.int .i64 b] w fun e w'=>e=.returned (.int .i64 (Nat.gcd a b))∧∃ n,w'=w.drewN n:=by
 go_enter Tryz.func133,Tryz.ntmps133
 go_wp2
 go_loopw [0,1] (GcdRel w (Nat.gcd a b)) (fun _ y _=>(intOf y).toNat)
 case atStart=>exact ⟨0,a,b,rfl,rfl,ha1,hb1,rfl,rfl⟩
 case round =>
  obtain ⟨n,p,q,rfl,rfl,hp,hq,hg,rfl⟩:=hrel
  have HG:=LH hg; clear hg
  by_cases h0:q=0
  ·subst h0
   go_wp2
   go_ret
   have:=HG.out
   simp at this
   exact ⟨by rw [← this]; rfl,n,rfl⟩
  ·have hne:((q:Int) == 0)=false:=by simp; omega
   have hm:=Nat.mod_lt p (show 0<q by omega)
   go_wp2
   go_quiet (fail)
   go_wp2
   go_roundw
   case rel=>exact ⟨n+nq,q,p % q,rfl,by go_num,by omega,by omega,by rw [← HG.out,gcd_step p q],by simp⟩
   case measure=>simp [intOf]; omega
set_option maxHeartbeats 400000 in
theorem rational_nativeInt (s:Str) (w:World) (hl:s.length≤9223372036854775807) :
  Calls Tryz.prog 132 #[.string ⟨s.toArray⟩] w fun e w'=>e=.returned (.tuple #[.int .i64 (natN s),.string ⟨(natRest s).toArray⟩,.bool (natOk s)])∧∃ n,w'=w.drewN n:=by
 go_enter Tryz.func132,Tryz.ntmps132
 go_wp2
 go_loop [5,6] (fun n i=>∃ k:Nat,k≤s.length∧k≤9∧i=.int .i64 k∧n=.int .i64 (nval (s.take k))∧AllDig (s.take k)) (fun _ i=>9 - (intOf i).toNat)
 case atStart=>exact ⟨0,by omega,by omega,rfl,rfl,by simp [AllDig]⟩
 case round =>
  obtain ⟨k,hk,hk9,rfl,rfl,had⟩:=hrel
  have HD:=LH had; clear had
  have hz:=nval_take_lt HD.out
  by_cases hgo:k<s.length∧k≤8∧isDig (at0 s k)=true
  ·obtain ⟨h1,h2,h3⟩:=hgo
   have hd:=(isDig_iff _).1 h3
   have HS:=LH (nval_take_succ h1)
   have HN:=LH (HD.out.snoc h1 h3)
   clear h3
   have hp:10 ^ k≤100000000:=by
    have:10 ^ k≤10 ^ 8:=Nat.pow_le_pow_right (by decide) h2
    omega
   go_wp2
   go_round
   case rel=>exact ⟨k+1,by omega,by omega,by go_num,by rw [HS.out]; go_num,HN.out⟩
   case measure=>simp [intOf]; omega
  ·have hstop:k=s.length∨k=9∨isDig (at0 s k)=false:=by
    by_cases a:k=s.length
    ·exact .inl a
    ·by_cases b:k=9
     ·exact .inr (.inl b)
     ·exact .inr (.inr (by
       cases hd:isDig (at0 s k) with
       | false=>rfl
       | true=>exact absurd ⟨by omega,by omega,hd⟩ hgo))
   clear hgo
   have HP:=LH (natPre_of HD.out hk hk9 hstop)
   have hcause:(¬ k<s.length)∨(k<s.length∧¬ k≤8)∨(k<s.length∧k≤8∧(at0 s k).toNat<48)∨(k<s.length∧k≤8∧48≤(at0 s k).toNat∧57<(at0 s k).toNat):=by
    rcases hstop with e | e | e
    ·omega
    ·omega
    ·rw [isDig_false_iff] at e; omega
   clear hstop
   have hres:k=0∨k=9∨(1<k∧k≤8∧((((at0 s 0).toNat:Int) == 48)=true))∨k=1∨(1<k∧k≤8∧((((at0 s 0).toNat:Int) == 48)=false)):=by
    cases ((((at0 s 0).toNat:Int) == 48)) with
    | true=>simp; omega
    | false=>simp; omega
   have hk64:(0:Int)≤k:=by omega
   have hkl:(k:Int)≤s.length:=by omega
   have hcl:s.length=0∨0<s.length:=by omega
   have hres2:(Hid (natOk s=false∧natN s=0∧natRest s=[])∧(k=0∨k=9∨(1<k∧k≤8∧((((at0 s 0).toNat:Int) == 48)=true)))) ∨
     (Hid (natOk s=true∧natN s=nval (s.take k)∧natRest s=s.drop k)∧(k=1∨(1<k∧k≤8∧((((at0 s 0).toNat:Int) == 48)=false)))):=by
    rcases hres with h | h | h | h | h
    ·exact .inl ⟨nat_fail HP.out (.inl h),.inl h⟩
    ·exact .inl ⟨nat_fail HP.out (by omega),.inr (.inl h)⟩
    ·exact .inl ⟨nat_fail HP.out (.inr (.inr ⟨h.1,by have:=h.2.2; rw [toNat48] at this; simpa using this⟩)),.inr (.inr h)⟩
    ·exact .inr ⟨nat_good HP.out (by omega) (by omega) (.inl h),.inl h⟩
    ·exact .inr ⟨nat_good HP.out (by omega) (by omega) (.inr (by have:=h.2.2; rw [toNat48] at this; simpa using this)),.inr h⟩
   clear hres
   rcases hres2 with ⟨HF,hr⟩ | ⟨HF,hr⟩
   ·rcases hcause with hc | ⟨hc,hc2⟩ | ⟨hc,hc2,hc3⟩ | ⟨hc,hc2,hc3,hc4⟩ <;> rcases hr with rfl | rfl | ⟨hr,hr2,hr3⟩
    all_goals first
     | (exfalso; omega)
     | (go_wp2; go_ret3; obtain ⟨a,b,c⟩:=HF.out; exact ⟨by rw [a,b,c]; rfl,0,rfl⟩)
   ·rcases hcause with hc | ⟨hc,hc2⟩ | ⟨hc,hc2,hc3⟩ | ⟨hc,hc2,hc3,hc4⟩ <;> rcases hr with rfl | ⟨hr,hr2,hr3⟩
    all_goals first
     | (exfalso; omega)
     | (go_wp2; go_quiet (fail); go_wp2; go_ret3; obtain ⟨a,b,c⟩:=HF.out; exact ⟨by rw [a,b,c]; rfl,nq,rfl⟩)
     | (have hb0:((k:Int) == 0)=false:=(by simp; omega); have hb8:decide (8<(k:Int))=false:=(by simp; omega); go_wp2; go_quiet (fail); go_wp2; go_ret3; obtain ⟨a,b,c⟩:=HF.out; exact ⟨by rw [a,b,c]; rfl,nq,rfl⟩)
end Go.Proofs.YtohlpeicpoaanaaGreatDoor
