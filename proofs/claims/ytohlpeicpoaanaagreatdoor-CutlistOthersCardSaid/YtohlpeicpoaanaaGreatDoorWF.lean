/-
  Walks: the package rational, numbers with short parts.
-/
import Derived.Test.YtohlpeicpoaanaaGreatDoorWD
import Derived.Test.YtohlpeicpoaanaaGreatDoorRootM
namespace Go.Proofs.YtohlpeicpoaanaaGreatDoor
open Go.RowKit Kp
set_option maxHeartbeats 400000 in
theorem native_number_pos (n:Int) (k:Nat) (hk:0<k) (hn:n.natAbs≤100000000000000000) (hd1:k≤100000000000000000) (w:World) (hE:Env w) :
  Calls Tryz.prog 205 #[.agg #[.int .i64 n,.int .i64 k]] w fun e w'=>e=.returned (.string ⟨(rstr (Rat.divInt n k)).toArray⟩)∧Q w w':=by
 have hmx:=max_neg n
 have hg1:0<Nat.gcd n.natAbs k:=Nat.gcd_pos_of_pos_right _ (by omega)
 obtain ⟨b1,b2⟩:=tdiv_bounds n (Nat.gcd n.natAbs k) (B:=100000000000000000) (by omega)
 have b3:0≤(k:Int) / (Nat.gcd n.natAbs k:Int):=Int.ediv_nonneg (by omega) (by omega)
 have b4:(k:Int) / (Nat.gcd n.natAbs k:Int)≤100000000000000000:=Int.le_trans (Int.ediv_le_self _ (by omega)) (by omega)
 have HR:=LH (rstr_divInt n k hk)
 generalize rstr (Rat.divInt n k)=r at *
 have HG:=LH (rational_gcd n.natAbs k)
 generalize hgg:Nat.gcd n.natAbs k=g at *
 clear hgg
 have hg3:((g:Int) == 0)=false:=by simp; omega
 have l1:=itoa_len (n.tdiv g) (lim_small (by omega))
 have l2:=itoa_len ((k:Int) / (g:Int)) (lim_small (by omega))
 by_cases h1:(k:Int) / (g:Int)=1
 ·have hb:((k:Int) / (g:Int) == 1)=true:=by simpa using h1
  have H1:=LH h1
  clear h1
  go_enter Tryz.func205,Tryz.ntmps205
  go_wp2_with (go_at_call 133; refine (HG.out _ (by omega) (by omega)).mono ?_; rintro e w1 ⟨rfl,n1,rfl⟩)
  go_quiet (fail)
  go_wp2_with fail
  refine (lib_Itoa _ (by omega) (by omega) _ (hE.q bt)).mono ?_
  rintro e w3 ⟨rfl,hq3⟩
  go_wp2
  go_ret
  exact ⟨by rw [HR.out,if_pos H1.out]; rfl,(show Below w.heap.size w _ from bt).trans (hq3.mono (by simp))⟩
 ·have hb:((k:Int) / (g:Int) == 1)=false:=by simpa using h1
  have H1:=LH h1
  clear h1
  go_enter Tryz.func205,Tryz.ntmps205
  go_wp2_with (go_at_call 133; refine (HG.out _ (by omega) (by omega)).mono ?_; rintro e w1 ⟨rfl,n1,rfl⟩)
  go_quiet (fail)
  go_wp2_with fail
  refine (lib_Itoa _ (by omega) (by omega) _ (hE.q bt)).mono ?_
  rintro e w3 ⟨rfl,hq3⟩
  have hQ3:Q w w3:=(show Below w.heap.size w _ from bt).trans (hq3.mono (by simp))
  go_wp2_with fail
  refine (lib_Itoa _ (by omega) (by omega) _ (hE.q hQ3)).mono ?_
  rintro e w4 ⟨rfl,hq4⟩
  go_wp2
  go_ret
  exact ⟨by rw [HR.out,if_neg H1.out]; first | rfl | (simp; done),hQ3.trans (hq4.mono hQ3.size)⟩
set_option maxHeartbeats 400000 in
theorem native_number_neg (n:Int) (k:Nat) (hk:0<k) (hn:n.natAbs≤100000000000000000) (hd1:k≤100000000000000000) (w:World) (hE:Env w) :
  Calls Tryz.prog 205 #[.agg #[.int .i64 n,.int .i64 (-(k:Int))]] w fun e w'=>e=.returned (.string ⟨(rstr (Rat.divInt n (-(k:Int)))).toArray⟩)∧Q w w':=by
 have e0:Rat.divInt n (-(k:Int))=Rat.divInt (-n) k:=by rw [Rat.divInt_neg']
 rw [e0]
 have hmx:max (-n) n=n.natAbs:=by omega
 have hg1:0<Nat.gcd n.natAbs k:=Nat.gcd_pos_of_pos_right _ (by omega)
 obtain ⟨b1,b2⟩:=tdiv_bounds n (Nat.gcd n.natAbs k) (B:=100000000000000000) (by omega)
 have b3:0≤(k:Int) / (Nat.gcd n.natAbs k:Int):=Int.ediv_nonneg (by omega) (by omega)
 have b4:(k:Int) / (Nat.gcd n.natAbs k:Int)≤100000000000000000:=Int.le_trans (Int.ediv_le_self _ (by omega)) (by omega)
 have hr:=rstr_divInt (-n) k hk
 rw [Int.natAbs_neg,Int.neg_tdiv] at hr
 have HR:=LH hr
 clear hr
 generalize rstr (Rat.divInt (-n) k)=r at *
 have HG:=LH (rational_gcd n.natAbs k)
 generalize hgg:Nat.gcd n.natAbs k=g at *
 clear hgg e0
 have hg3:((g:Int) == 0)=false:=by simp; omega
 have l1:=itoa_len (-(n.tdiv g)) (lim_small (by omega))
 have l2:=itoa_len ((k:Int) / (g:Int)) (lim_small (by omega))
 by_cases h1:(k:Int) / (g:Int)=1
 ·have hb:((k:Int) / (g:Int) == 1)=true:=by simpa using h1
  have H1:=LH h1
  clear h1
  go_enter Tryz.func205,Tryz.ntmps205
  go_wp2_with (go_at_call 133; go_loud (refine (HG.out _ (by omega) (by omega)).mono ?_); rintro e w1 ⟨rfl,n1,rfl⟩)
  go_quiet (fail)
  go_wp2_with fail
  refine (lib_Itoa _ (by omega) (by omega) _ (hE.q bt)).mono ?_
  rintro e w3 ⟨rfl,hq3⟩
  go_wp2
  go_ret
  exact ⟨by rw [HR.out,if_pos H1.out]; rfl,(show Below w.heap.size w _ from bt).trans (hq3.mono (by simp))⟩
 ·have hb:((k:Int) / (g:Int) == 1)=false:=by simpa using h1
  have H1:=LH h1
  clear h1
  go_enter Tryz.func205,Tryz.ntmps205
  go_wp2_with (go_at_call 133; go_loud (refine (HG.out _ (by omega) (by omega)).mono ?_); rintro e w1 ⟨rfl,n1,rfl⟩)
  go_quiet (fail)
  go_wp2_with fail
  refine (lib_Itoa _ (by omega) (by omega) _ (hE.q bt)).mono ?_
  rintro e w3 ⟨rfl,hq3⟩
  have hQ3:Q w w3:=(show Below w.heap.size w _ from bt).trans (hq3.mono (by simp))
  go_wp2_with fail
  refine (lib_Itoa _ (by omega) (by omega) _ (hE.q hQ3)).mono ?_
  rintro e w4 ⟨rfl,hq4⟩
  go_wp2
  go_ret
  exact ⟨by rw [HR.out,if_neg H1.out]; first | rfl | (simp; done),hQ3.trans (hq4.mono hQ3.size)⟩
end Go.Proofs.YtohlpeicpoaanaaGreatDoor
