/-
  VI VJ VK, one behind the other.
-/
import Derived.Test.YtedijdmenfcjlaaGreatDoorVZ2
namespace Go.Proofs.YtedijdmenfcjlaaGreatDoor
open Go.RowKit Kp
open Go.Lib (decDigits)
def cei (x : Rat) (l : Nat) : Nat := if flo x l * flo x l * (x.den * x.den) = sqN x l then flo x l else flo x l + 1
theorem flo_lt {x : Rat} {l : Nat} (h : sqN x l < 10 ^ 8 * (x.den * x.den)) : flo x l < 10 ^ 4 := by
 have := mill_lt h
 unfold flo
 omega
theorem ord_low {x : Rat} {l : Nat} (hp : PTerm x l) : ordS (sqN x l) (x.den * x.den) ((flo x l : Int) - 1) = 1 := by
 have hF := flo_is x l
 have hd : 0 < x.den * x.den := Nat.mul_pos x.den_pos x.den_pos
 have hX : 0 < sqN x l := by
  have := sqN_pos (x := x) (l := l) (by have := hp.pos; omega) hp.t.norm.1 1
  simpa using this
 generalize flo x l = F at *
 unfold ordS
 by_cases h : (F : Int) - 1 ≤ 0
 ·rw [if_pos h]
 ·rw [if_neg h, if_pos]
  obtain ⟨G, rfl⟩ : ∃ G, F = G + 1 := ⟨F - 1, by omega⟩
  rw [show ((G + 1 : Nat) : Int) - 1 = (G : Int) by omega, Int.toNat_natCast]
  have h1 : G * G < (G + 1) * (G + 1) := Nat.mul_lt_mul'' (by omega) (by omega)
  exact Nat.lt_of_lt_of_le (Nat.mul_lt_mul_of_pos_right h1 hd) hF.lo
theorem ord_mid {x : Rat} {l : Nat} (hp : PTerm x l) : ordS (sqN x l) (x.den * x.den) (flo x l : Int) = if flo x l * flo x l * (x.den * x.den) = sqN x l then 0 else 1 := by
 have hF := flo_is x l
 have hX : 0 < sqN x l := by
  have := sqN_pos (x := x) (l := l) (by have := hp.pos; omega) hp.t.norm.1 1
  simpa using this
 generalize flo x l = F at *
 unfold ordS
 by_cases h : (F : Int) ≤ 0
 ·have e : F = 0 := by omega
  subst e
  rw [if_pos (by omega), if_neg (by simp; omega)]
 ·rw [if_neg h, Int.toNat_natCast]
  have := hF.lo
  split
  ·rw [if_neg (by omega)]
  ·rw [if_pos (by omega), if_pos (by omega)]
theorem ord_high {x : Rat} {l : Nat} : ordS (sqN x l) (x.den * x.den) ((flo x l : Int) + 1) = -1 := by
 have hF := flo_is x l
 generalize flo x l = F at *
 unfold ordS
 rw [if_neg (by omega), show ((F : Int) + 1).toNat = F + 1 by omega]
 have := hF.hi
 rw [if_neg (by omega), if_neg (by omega)]
set_option maxRecDepth 100000 in
set_option maxHeartbeats 2000000 in
theorem enc_of (x : Rat) (l : Nat) (hp : PTerm x l) (hV : sqN x l < 10 ^ 8 * (x.den * x.den)) (B : Nat) (v : Value) (w : World) (hE : Env w) (hv : Surd1 w B v x l) :
  Calls Tryz.prog 160 #[v, .string ⟨#[49]⟩] w fun e w' => ∃ L : Str, e = .returned (.tuple #[.agg #[.string ⟨L.toArray⟩, .string ⟨(Lib.itoa (cei x l : Int)).toArray⟩], .int .i64 0]) ∧ Q w w' := by
 have hf4 := flo_lt hV
 have HN := Lib.hid (fun w hw hv => enc_near x l hp hV B v w hw hv)
 have hol := fun w hw hv => enc_order x l hp ((flo x l : Int) - 1) (by omega) B v w hw hv
 have hom := fun w hw hv => enc_order x l hp (flo x l : Int) (by omega) B v w hw hv
 have hoh := fun w hw hv => enc_order x l hp ((flo x l : Int) + 1) (by omega) B v w hw hv
 rw [ord_low hp] at hol
 rw [ord_mid hp] at hom
 rw [ord_high] at hoh
 have ha1 := fun w hw => rational_Add_bd (((flo x l : Int) - 1 : Int) : Rat) 1 (bd_int (n := 8) (by omega) (by decide)) bd_one (by decide) w hw
 rw [rstr_int, rstr_one, show ((((flo x l : Int) - 1 : Int) : Rat) + 1) = ((flo x l : Int) : Rat) by rw [Rat.intCast_sub]; have : ((1 : Int) : Rat) = 1 := rfl; rw [this]; grind, rstr_int] at ha1
 have ha2 := fun w hw => rational_Add_bd ((flo x l : Int) : Rat) 1 (bd_int (n := 8) (by omega) (by decide)) bd_one (by decide) w hw
 rw [rstr_int, rstr_one, show (((flo x l : Int) : Rat) + 1) = (((flo x l : Int) + 1 : Int) : Rat) by rw [Rat.intCast_add]; rfl, rstr_int] at ha2
 have HOL := Lib.hid hol
 have HA1 := Lib.hid ha1
 have HA2 := Lib.hid ha2
 have HOH := Lib.hid hoh
 have HV := Lib.hid hv
 obtain ⟨g1, c1, rfl, -, -⟩ := World.ownsRow.form hv (by omega)
 unfold cei
 clear hol ha1 ha2 hoh hf4 hp hV
 by_cases heq : flo x l * flo x l * (x.den * x.den) = sqN x l
 ·rw [if_pos heq] at hom ⊢
  have HOM := Lib.hid hom
  clear hom heq
  generalize Lib.itoa ((flo x l : Int) - 1) = L0 at *
  generalize Lib.itoa ((flo x l : Int) + 1) = L2 at *
  generalize Lib.itoa (flo x l : Int) = L1 at *
  go_enter Tryz.func160, Tryz.ntmps160
  have hQ0 := Q.refl w
  go_wp2_with fail
  refine (HN.out _ (hE.ofQ bt) (surd1_keep HV.out bt)).mono ?_
  rintro e w1 ⟨rfl, hq1⟩
  have hs1 : Q w w1 := Q.trans bt hq1
  have hQ1 : Q w w1 := Q.trans hQ0 hs1
  have R := (Blk.new w [.string ⟨#[]⟩, .string ⟨#[]⟩] 159).keep hq1 (by simp)
  go_wp2_with fail
  refine (HOL.out _ (hE.q hQ1) (surd1_keep HV.out hQ1)).mono ?_
  rintro e w2 ⟨rfl, hq2⟩
  have hs2 : Q w1 w2 := Q.trans bt hq2
  have hQ2 : Q w w2 := Q.trans hQ1 hs2
  replace R := R.keep hs2 R.lt
  go_wp2
  go_loopw [6, 8, 9, 42] (fun lo n f i wr => Q w wr ∧ Blk wr w.heap.size [.string ⟨#[]⟩, .string ⟨#[]⟩] 159 ∧ i = .int .i64 0 ∧ lo = .string ⟨L0.toArray⟩ ∧ n = .int .i64 1 ∧ f = .int .i64 0) (fun _ _ _ _ _ => 0)
  case atStart => exact ⟨hQ2, R, rfl, rfl, rfl, rfl⟩
  case round =>
   clear R
   obtain ⟨hQ, R, rfl, rfl, rfl, rfl⟩ := hrel
   go_wp2_with fail
   refine (HA1.out _ (hE.q hQ)).mono ?_
   rintro e w3 ⟨rfl, hq3⟩
   have hQ3 : Q w w3 := Q.trans hQ hq3
   go_wp2_with fail
   refine (HOM.out _ (hE.q hQ3) (surd1_keep HV.out hQ3)).mono ?_
   rintro e w4 ⟨rfl, hq4⟩
   have hs4 : Q wr w4 := Q.trans hq3 hq4
   have hQ4 : Q w w4 := Q.trans hQ3 hq4
   replace R := R.keep hs4 R.lt
   have r0 := R.cell 0
   have r1 := R.cell 1
   have f0 := R.frozen 0
   have f1 := R.frozen 1
   have lR := R.lt
   simp only [List.getElem?_cons_zero, List.getElem?_cons_succ] at r0 r1
   go_wp2
   refine bodyPost_ret (v := .tuple #[.agg #[.string ⟨L1.toArray⟩, .string ⟨L1.toArray⟩], .int .i64 0]) (ret_c2t Tryz.results160 (.inr rfl) _ _ w.heap.size _ _ _ rfl rfl (R.set2.cell 0) (R.set2.cell 1)) rfl ⟨L1, rfl, bt⟩
 ·rw [if_neg heq] at hom ⊢
  rw [show ((flo x l + 1 : Nat) : Int) = (flo x l : Int) + 1 from rfl]
  have HOM := Lib.hid hom
  clear hom heq
  generalize Lib.itoa ((flo x l : Int) - 1) = L0 at *
  generalize Lib.itoa ((flo x l : Int) + 1) = L2 at *
  generalize Lib.itoa (flo x l : Int) = L1 at *
  go_enter Tryz.func160, Tryz.ntmps160
  have hQ0 := Q.refl w
  go_wp2_with fail
  refine (HN.out _ (hE.ofQ bt) (surd1_keep HV.out bt)).mono ?_
  rintro e w1 ⟨rfl, hq1⟩
  have hs1 : Q w w1 := Q.trans bt hq1
  have hQ1 : Q w w1 := Q.trans hQ0 hs1
  have R := (Blk.new w [.string ⟨#[]⟩, .string ⟨#[]⟩] 159).keep hq1 (by simp)
  go_wp2_with fail
  refine (HOL.out _ (hE.q hQ1) (surd1_keep HV.out hQ1)).mono ?_
  rintro e w2 ⟨rfl, hq2⟩
  have hs2 : Q w1 w2 := Q.trans bt hq2
  have hQ2 : Q w w2 := Q.trans hQ1 hs2
  replace R := R.keep hs2 R.lt
  go_wp2
  go_loopw [6, 8, 9, 42] (fun lo n f i wr => Q w wr ∧ Blk wr w.heap.size [.string ⟨#[]⟩, .string ⟨#[]⟩] 159 ∧ n = .int .i64 1 ∧ f = .int .i64 0 ∧ ((i = .int .i64 0 ∧ lo = .string ⟨L0.toArray⟩) ∨ (i = .int .i64 1 ∧ lo = .string ⟨L1.toArray⟩))) (fun _ _ _ i _ => 1 - (intOf i).toNat)
  case atStart => exact ⟨hQ2, R, rfl, rfl, .inl ⟨rfl, rfl⟩⟩
  case round =>
   clear R
   obtain ⟨hQ, R, rfl, rfl, ⟨rfl, rfl⟩ | ⟨rfl, rfl⟩⟩ := hrel
   ·go_wp2_with fail
    refine (HA1.out _ (hE.q hQ)).mono ?_
    rintro e w3 ⟨rfl, hq3⟩
    have hQ3 : Q w w3 := Q.trans hQ hq3
    go_wp2_with fail
    refine (HOM.out _ (hE.q hQ3) (surd1_keep HV.out hQ3)).mono ?_
    rintro e w4 ⟨rfl, hq4⟩
    have hs4 : Q wr w4 := Q.trans hq3 hq4
    have hQ4 : Q w w4 := Q.trans hQ3 hq4
    replace R := R.keep hs4 R.lt
    go_wp2
    go_roundw
    case rel => exact ⟨hQ4, R, rfl, rfl, .inr ⟨rfl, rfl⟩⟩
    case measure => simp [intOf]
   ·go_wp2_with fail
    refine (HA2.out _ (hE.q hQ)).mono ?_
    rintro e w3 ⟨rfl, hq3⟩
    have hQ3 : Q w w3 := Q.trans hQ hq3
    go_wp2_with fail
    refine (HOH.out _ (hE.q hQ3) (surd1_keep HV.out hQ3)).mono ?_
    rintro e w4 ⟨rfl, hq4⟩
    have hs4 : Q wr w4 := Q.trans hq3 hq4
    have hQ4 : Q w w4 := Q.trans hQ3 hq4
    replace R := R.keep hs4 R.lt
    have r0 := R.cell 0
    have r1 := R.cell 1
    have f0 := R.frozen 0
    have f1 := R.frozen 1
    have lR := R.lt
    simp only [List.getElem?_cons_zero, List.getElem?_cons_succ] at r0 r1
    go_wp2
    refine bodyPost_ret (v := .tuple #[.agg #[.string ⟨L1.toArray⟩, .string ⟨L2.toArray⟩], .int .i64 0]) (ret_c2t Tryz.results160 (.inr rfl) _ _ w.heap.size _ _ _ rfl rfl (R.set2.cell 0) (R.set2.cell 1)) rfl ⟨L1, rfl, bt⟩
set_option maxHeartbeats 400000 in
theorem enc_unit0 (w : World) : Calls Tryz.prog 161 #[.int .i64 0] w fun e w' => e = .returned (.string ⟨#[49]⟩) ∧ w = w' := by
 go_enter Tryz.func161, Tryz.ntmps161
 go_wp2
 go_ret
 exact ⟨rfl, rfl⟩
set_option maxRecDepth 100000 in
set_option maxHeartbeats 1000000 in
theorem enc_Of (x : Rat) (l : Nat) (hp : PTerm x l) (hV : sqN x l < 10 ^ 8 * (x.den * x.den)) (B : Nat) (v : Value) (w : World) (hE : Env w) (hv : Surd1 w B v x l) :
  Calls Tryz.prog 101 #[v, .int .i64 0] w fun e w' => ∃ L : Str, e = .returned (.tuple #[.agg #[.string ⟨L.toArray⟩, .string ⟨(Lib.itoa (cei x l : Int)).toArray⟩], .int .i64 0]) ∧ Q w w' := by
 have HC := Lib.hid (fun w hw hv => enc_checkSurd x l hp B v w hw hv)
 have HO := Lib.hid (fun w hw hv => enc_of x l hp hV B v w hw hv)
 have HV := Lib.hid hv
 obtain ⟨g1, c1, rfl, -, -⟩ := World.ownsRow.form hv (by omega)
 clear hv hp hV
 generalize Lib.itoa (cei x l : Int) = H at *
 go_enter Tryz.func101, Tryz.ntmps101
 have hQ0 := Q.refl w
 go_wp2_with fail
 refine (HC.out _ (hE.ofQ bt) (surd1_keep HV.out bt)).mono ?_
 rintro e w1 ⟨rfl, hq1⟩
 have hs1 : Q w w1 := Q.trans bt hq1
 have hQ1 : Q w w1 := Q.trans hQ0 hs1
 have R := (Blk.new w [.string ⟨#[]⟩, .string ⟨#[]⟩] 159).keep hq1 (by simp)
 go_wp2_with fail
 refine (enc_unit0 _).mono ?_
 rintro e w2 ⟨rfl, rfl⟩
 go_wp2_with fail
 refine (HO.out _ (hE.q hQ1) (surd1_keep HV.out hQ1)).mono ?_
 rintro e w2 ⟨L, rfl, hq2⟩
 have hs2 : Q w1 w2 := Q.trans bt hq2
 have hQ2 : Q w w2 := Q.trans hQ1 hs2
 replace R := R.keep hs2 R.lt
 have r0 := R.cell 0
 have r1 := R.cell 1
 have f0 := R.frozen 0
 have f1 := R.frozen 1
 have lR := R.lt
 simp only [List.getElem?_cons_zero, List.getElem?_cons_succ] at r0 r1
 go_wp2
 refine bodyPost_ret (v := .tuple #[.agg #[.string ⟨L.toArray⟩, .string ⟨H.toArray⟩], .int .i64 0]) (ret_c2t Tryz.results101 (.inr rfl) _ _ w.heap.size _ _ _ rfl rfl (R.set2.cell 0) (R.set2.cell 1)) rfl ⟨L, rfl, bt⟩
set_option maxHeartbeats 400000 in
theorem rnd_ceiling (L H : Str) (w : World) : Calls Tryz.prog 59 #[.agg #[.string ⟨L.toArray⟩, .string ⟨H.toArray⟩]] w fun e w' => e = .returned (.string ⟨H.toArray⟩) ∧ Q w w' := by
 go_enter Tryz.func59, Tryz.ntmps59
 go_wp2
 go_ret
 exact ⟨rfl, bt⟩
set_option maxRecDepth 100000 in
set_option maxHeartbeats 1000000 in
theorem rnd_multiples1 (x : Rat) (l : Nat) (hp : PTerm x l) (hV : sqN x l < 10 ^ 8 * (x.den * x.den)) (u : Rat) (bu : Bd 20 u) (B : Nat) (v : Value) (w : World) (hE : Env w) (hv : Surd1 w B v x l) (p : Nat) (hpl : p < w.heap.size) (hpc : w.cell? ⟨p, 0, none⟩ = some (.func (.func 59) #[] #[])) :
  Calls Tryz.prog 100 #[v, .string ⟨(rstr u).toArray⟩, .pointer (some ⟨p, 0, none⟩)] w fun e w' => e = .returned (.tuple #[.string ⟨(rstr ((cei x l : Rat) * u)).toArray⟩, .int .i64 0]) ∧ Q w w' := by
 have HO := Lib.hid (fun w hw hv => enc_Of x l hp hV B v w hw hv)
 have hc : cei x l < 10 ^ 5 := by
  have := flo_lt hV
  unfold cei; split <;> omega
 have hm := fun w hw => rational_Mul_bd (cei x l : Rat) u (show Bd 8 ((cei x l : Nat) : Rat) from ⟨by rw [Rat.num_natCast, Int.natAbs_natCast]; exact Nat.lt_of_lt_of_le hc (by decide), by rw [Rat.den_natCast]; exact by decide⟩) bu (by decide) w hw
 rw [rstr_nat] at hm
 have HM := Lib.hid hm
 have HV := Lib.hid hv
 obtain ⟨g1, c1, rfl, -, -⟩ := World.ownsRow.form hv (by omega)
 clear hv hp hV hm bu hc
 generalize rstr ((cei x l : Rat) * u) = R at *
 generalize Lib.itoa (cei x l : Int) = H at *
 generalize rstr u = U at *
 go_enter Tryz.func100, Tryz.ntmps100
 have hQ0 := Q.refl w
 go_wp2_with fail
 refine (HO.out _ hE HV.out).mono ?_
 rintro e w1 ⟨L, rfl, hq1⟩
 have hs1 : Q w w1 := Q.trans bt hq1
 have hQ1 : Q w w1 := Q.trans hQ0 hs1
 have hpc1 := (hQ1.cell (p := ⟨p, 0, none⟩) hpl).trans hpc
 have hpl1 : p < w1.heap.size := Nat.lt_of_lt_of_le hpl hQ1.size
 have HCE := Lib.hid (fun w => rnd_ceiling L H w)
 go_wp2_with fail
 refine (HCE.out _).mono ?_
 rintro e w2 ⟨rfl, hq2⟩
 have hs2 : Q w1 w2 := Q.trans bt hq2
 have hQ2 : Q w w2 := Q.trans hQ1 hs2
 go_wp2_with fail
 refine (HM.out _ (hE.ofQ bt)).mono ?_
 rintro e w3 ⟨rfl, hq3⟩
 have hs3 : Q w2 w3 := Q.trans bt hq3
 have hQ3 : Q w w3 := Q.trans hQ2 hs3
 go_wp2
 go_ret2
 exact ⟨rfl, bt⟩
set_option maxHeartbeats 400000 in
theorem rnd_multiples (k : Nat) (w : World) :
  Calls Tryz.prog 58 #[.func (.func k) #[] #[]] w fun e w' => e = .returned (.func (.func 100) #[] #[.pointer (some ⟨w.heap.size, 0, none⟩)]) ∧ Q w w' ∧ w.heap.size < w'.heap.size ∧ w'.cell? ⟨w.heap.size, 0, none⟩ = some (.func (.func k) #[] #[]) := by
 go_enter Tryz.func58, Tryz.ntmps58
 go_wp2
 go_ret
 refine ⟨rfl, bt, by simp, ?_⟩
 exact (Blk.new w [.func (.func k) #[] #[]] 106).cell 0
set_option maxRecDepth 100000 in
set_option maxHeartbeats 1000000 in
theorem rnd_check (x : Rat) (l : Nat) (hx : Term1 x l) (u : Rat) (su : Small8 u) (u0 : 0 < u.num) (B : Nat) (v : Value) (w : World) (hE : Env w) (hv : Surd1 w B v x l) :
  Calls Tryz.prog 97 #[v, .string ⟨(rstr u).toArray⟩] w fun e w' => e = .returned (.int .i64 0) ∧ Q w w' := by
 have HC := Lib.hid (fun w hw hv => surd_Check_one x l hx B v w hw hv)
 have b8 : Bd 8 u := su
 have HR := Lib.hid (fun w hw => rational_Check_num u (b8.rlim (by decide)) w hw)
 have hcm := fun w => rational_Compare_small u 0 su (show Small8 0 from ⟨by decide, by decide⟩) w
 rw [rstr_zero, show Lib.compareInt (u.num * ((0 : Rat).den : Int)) ((0 : Rat).num * (u.den : Int)) = 1 by
  have e1 : ((0 : Rat).den : Int) = 1 := rfl
  have e2 : (0 : Rat).num = 0 := rfl
  rw [e1, e2, Int.mul_one, Int.zero_mul]
  unfold Lib.compareInt
  rw [if_neg (by omega), if_pos (by omega)]] at hcm
 have HCM := Lib.hid hcm
 have HV := Lib.hid hv
 obtain ⟨g1, c1, rfl, -, -⟩ := World.ownsRow.form hv (by omega)
 clear hv hx b8 su u0 hcm
 generalize rstr u = U at *
 go_enter Tryz.func97, Tryz.ntmps97
 have hQ0 := Q.refl w
 go_wp2_with fail
 refine (HC.out _ hE HV.out).mono ?_
 rintro e w1 ⟨rfl, hq1⟩
 have hs1 : Q w w1 := Q.trans bt hq1
 have hQ1 : Q w w1 := Q.trans hQ0 hs1
 go_wp2_with fail
 refine (HR.out _ (hE.ofQ bt)).mono ?_
 rintro e w2 ⟨rfl, hq2⟩
 have hs2 : Q w1 w2 := Q.trans bt hq2
 have hQ2 : Q w w2 := Q.trans hQ1 hs2
 go_wp2_with fail
 refine (HCM.out _).mono ?_
 rintro e w3 ⟨rfl, hq3⟩
 have hs3 : Q w2 w3 := Q.trans bt hq3
 have hQ3 : Q w w3 := Q.trans hQ2 hs3
 go_wp2
 go_ret
 exact ⟨rfl, bt⟩
set_option maxRecDepth 100000 in
set_option maxHeartbeats 1000000 in
theorem rnd_units (x : Rat) (l : Nat) (hx : Term1 x l) (bx : Bd 40 x) (hl : l < 10 ^ 40) (u : Rat) (su : Small8 u) (u0 : 0 < u.num) (B : Nat) (v : Value) (w : World) (hE : Env w) (hv : Surd1 w B v x l) :
  Calls Tryz.prog 57 #[v, .string ⟨(rstr u).toArray⟩] w fun e w' => ∃ v', e = .returned (.tuple #[v', .int .i64 0]) ∧ Q w w' ∧ Surd1 w' w.heap.size v' (x * (1 / u)) l := by
 have HC := Lib.hid (fun w hw hv => rnd_check x l hx u su u0 B v w hw hv)
 have b8 : Bd 8 u := su
 have hd := fun w hw => rational_Div_bd 1 u bd_one b8 (by omega) (by decide) w hw
 rw [rstr_one] at hd
 have HD := Lib.hid hd
 have HS := Lib.hid (fun w hw hv => surd_Scale_one x (1 / u) l hx bx (inv_bd b8 u0) (by decide) (fun e => by have := inv_pos u u0; rw [e] at this; simp at this) hl B v w hw hv)
 have HV := Lib.hid hv
 obtain ⟨g1, c1, rfl, -, -⟩ := World.ownsRow.form hv (by omega)
 clear hv hx b8 su u0 hd bx hl
 generalize rstr (1 / u) = I at *
 generalize rstr u = U at *
 go_enter Tryz.func57, Tryz.ntmps57
 have hQ0 := Q.refl w
 go_wp2_with fail
 refine (HC.out _ hE HV.out).mono ?_
 rintro e w1 ⟨rfl, hq1⟩
 have hs1 : Q w w1 := Q.trans bt hq1
 have hQ1 : Q w w1 := Q.trans hQ0 hs1
 go_wp2_with fail
 refine (HD.out _ (hE.ofQ bt)).mono ?_
 rintro e w2 ⟨rfl, hq2⟩
 have hs2 : Q w1 w2 := Q.trans bt hq2
 have hQ2 : Q w w2 := Q.trans hQ1 hs2
 go_wp2_with fail
 refine (HS.out _ (hE.q hQ2) (surd1_keep HV.out hQ2)).mono ?_
 rintro e w3 ⟨v1, rfl, hq3, h1⟩
 have hs3 : Q w2 w3 := Q.trans bt hq3
 have hQ3 : Q w w3 := Q.trans hQ2 hs3
 have H1 := Lib.hid (Joins.ownsRow_le h1 hQ2.size)
 clear h1
 go_wp2
 go_ret2
 exact ⟨_, rfl, bt, H1.out⟩
set_option maxRecDepth 100000 in
set_option maxHeartbeats 1000000 in
theorem rnd_Up (x : Rat) (l : Nat) (hx : Term1 x l) (bx : Bd 40 x) (hl : l < 10 ^ 40) (u : Rat) (su : Small8 u) (u0 : 0 < u.num) (hp : PTerm (x * (1 / u)) l) (hV : sqN (x * (1 / u)) l < 10 ^ 8 * ((x * (1 / u)).den * (x * (1 / u)).den)) (B : Nat) (v : Value) (w : World) (hE : Env w) (hv : Surd1 w B v x l) :
  Calls Tryz.prog 32 #[v, .string ⟨(rstr u).toArray⟩] w fun e w' => e = .returned (.tuple #[.string ⟨(rstr ((cei (x * (1 / u)) l : Rat) * u)).toArray⟩, .int .i64 0]) ∧ Q w w' := by
 have HU := Lib.hid (fun w hw hv => rnd_units x l hx bx hl u su u0 B v w hw hv)
 have b8 : Bd 8 u := su
 have HM := Lib.hid (fun B v w hw hv p h1 h2 => rnd_multiples1 (x * (1 / u)) l hp hV u (b8.mono (by decide)) B v w hw hv p h1 h2)
 have HV := Lib.hid hv
 obtain ⟨g1, c1, rfl, -, -⟩ := World.ownsRow.form hv (by omega)
 clear hv hx bx hl su u0 hp hV b8
 generalize rstr ((cei (x * (1 / u)) l : Rat) * u) = R at *
 generalize rstr u = U at *
 go_enter Tryz.func32, Tryz.ntmps32
 have hQ0 := Q.refl w
 go_wp2_with fail
 refine (HU.out _ hE HV.out).mono ?_
 rintro e w1 ⟨v1, rfl, hq1, h1⟩
 have hs1 : Q w w1 := Q.trans bt hq1
 have hQ1 : Q w w1 := Q.trans hQ0 hs1
 have H1 := Lib.hid h1
 obtain ⟨g2, c2, rfl, -, -⟩ := World.ownsRow.form h1 (by omega)
 clear h1
 go_wp2_with fail
 refine (rnd_multiples _ _).mono ?_
 rintro e w2 ⟨rfl, hq2, hlt, hcell⟩
 have hQ2 : Q w w2 := Q.trans hQ1 hq2
 go_wp2_with fail
 refine (HM.out _ _ _ (hE.q hQ2) (surd1_keep H1.out hq2) _ hlt hcell).mono ?_
 rintro e w2 ⟨rfl, hq2⟩
 have hs2 : Q w1 w2 := Q.trans bt hq2
 have hQ2 : Q w w2 := Q.trans hQ1 hs2
 go_wp2
 go_ret2
 exact ⟨rfl, bt⟩
end Go.Proofs.YtedijdmenfcjlaaGreatDoor
namespace Go.Proofs.YtedijdmenfcjlaaGreatDoor
open Go.RowKit Kp
open Go.Lib (decDigits)
set_option maxRecDepth 100000 in
set_option maxHeartbeats 1000000 in
theorem true_Round {m : Nat} (hm6 : 6 * m + 2 ≤ 300) {n : Nat} (k W D : Int) (hm : MOk k W D) (f t : P3) (hf : B3 n f) (ht : B3 n t) (hn : n ≤ 36) (hne : f ≠ t) (w : World) (hE : Env w) (hd : B3 m (t.sub f)) (hs : Bd 16 (t.sub f).sq) (sp : 0 < (t.sub f).sq.num) (u : Rat) (su : Small8 u) (u0 : 0 < u.num)
  (hp : PTerm (aOf (t.sub f).sq * (1 / u)) (leftOf (t.sub f).sq)) (hV : sqN (aOf (t.sub f).sq * (1 / u)) (leftOf (t.sub f).sq) < 10 ^ 8 * ((aOf (t.sub f).sq * (1 / u)).den * (aOf (t.sub f).sq * (1 / u)).den)) :
  Calls Tryz.prog 16 #[VM k W D f t, .string ⟨(rstr u).toArray⟩] w fun e w' => e = .returned (.tuple #[.string ⟨(rstr ((cei (aOf (t.sub f).sq * (1 / u)) (leftOf (t.sub f).sq) : Rat) * u)).toArray⟩, .int .i64 0]) ∧ Q w w' := by
 have HL := Lib.hid (fun w hw => true_Length hm6 k W D hm f t hf ht hn hne w hw hd hs)
 have ht1 := term_of hs sp
 have ba := aOf_bd hs sp
 have hl : leftOf (t.sub f).sq < 10 ^ 40 := by
  have h := ht1.c40.1
  rw [Rat.num_natCast, Int.natAbs_natCast] at h; exact h
 have HU := Lib.hid (fun B v w hw hv => rnd_Up (aOf (t.sub f).sq) (leftOf (t.sub f).sq) ht1 (ba.mono (by decide)) hl u su u0 hp hV B v w hw hv)
 have hne0 : (t.sub f).sq ≠ 0 := fun e => by rw [e] at sp; simp at sp
 have HS : Hid (∀ w' v, LenAt w' w.heap.size v (t.sub f).sq → Surd1 w' w.heap.size v (aOf (t.sub f).sq) (leftOf (t.sub f).sq)) := Lib.hid (fun w' v h => h.elim (fun h => absurd h.1 hne0) (fun h => h.2))
 have HLT : Hid (∀ w1 w' v, Q w w1 → LenAt w' w1.heap.size v (t.sub f).sq → LenAt w' w.heap.size v (t.sub f).sq) := Lib.hid (fun w1 w' v hq h => h.mono hq.size)
 unfold VM at *
 clear hm hf ht hne hd hs sp ht1 ba hl su u0 hp hV hne0
 generalize rstr ((cei (aOf (t.sub f).sq * (1 / u)) (leftOf (t.sub f).sq) : Rat) * u) = R at *
 generalize rstr u = U at *
 generalize rstr f.x = X at *
 generalize rstr f.y = Y at *
 generalize rstr f.z = Z at *
 generalize rstr t.x = X' at *
 generalize rstr t.y = Y' at *
 generalize rstr t.z = Z' at *
 go_enter Tryz.func16, Tryz.ntmps16
 have hQ0 := Q.refl w
 go_wp2_with fail
 refine (HL.out _ (hE.ofQ bt)).mono ?_
 rintro e w1 ⟨v, rfl, hq1, hl⟩
 have hs1 : Q w w1 := Q.trans bt hq1
 have hQ1 : Q w w1 := Q.trans hQ0 hs1
 have H1 := Lib.hid (HS.out _ _ (hl.mono (by first | (simp; done) | (simp; omega))))
 clear hl
 obtain ⟨g1, c1, rfl, -, -⟩ := World.ownsRow.form H1.out (by omega)
 go_wp2_with fail
 refine (HU.out _ _ _ (hE.q hQ1) H1.out).mono ?_
 rintro e w2 ⟨rfl, hq2⟩
 have hs2 : Q w1 w2 := Q.trans bt hq2
 have hQ2 : Q w w2 := Q.trans hQ1 hs2
 go_wp2
 go_ret2
 exact ⟨rfl, bt⟩
set_option maxHeartbeats 400000 in
theorem law_spot (X Y Z : Str) (w : World) :
  Calls Tryz.prog 13 #[.string ⟨X.toArray⟩, .string ⟨Y.toArray⟩, .string ⟨Z.toArray⟩] w fun e w' => e = .returned (.agg #[.string ⟨X.toArray⟩, .string ⟨Y.toArray⟩, .string ⟨Z.toArray⟩]) ∧ Q w w' := by
 go_enter Tryz.func13, Tryz.ntmps13
 go_wp2
 have BB := Blk.new w [.string ⟨X.toArray⟩, .string ⟨Y.toArray⟩, .string ⟨Z.toArray⟩] 31
 refine bodyPost_ret (v := .agg #[.string ⟨X.toArray⟩, .string ⟨Y.toArray⟩, .string ⟨Z.toArray⟩]) (ret_c3 Tryz.results13 (.inl rfl) _ _ w.heap.size _ _ _ rfl (BB.cell 0) (BB.cell 1) (BB.cell 2)) rfl ⟨rfl, bt⟩
theorem same_rows (B1 B2 : Nat) (v1 v2 : Value) (s1 s2 : Str) (w : World) (h1 : w.ownsRow B1 56 2 v1 1 [.string ⟨s1.toArray⟩, .string ⟨s2.toArray⟩]) (h2 : w.ownsRow B2 56 2 v2 1 [.string ⟨s1.toArray⟩, .string ⟨s2.toArray⟩]) :
  Calls Tryz.prog 18 #[v1, v2] w fun e w' => e = .returned (.bool true) ∧ Q w w' := by
 obtain ⟨g1, c1, rfl, -, -⟩ := h1.form (by omega)
 obtain ⟨g2, c2, rfl, -, -⟩ := h2.form (by omega)
 refine (ref04_Same_one g1 g2 c1 c2 s1 s2 w (h1.cellAt 0 (by omega)) (h1.cellAt 1 (by omega)) (h2.cellAt 0 (by omega)) (h2.cellAt 1 (by omega))).mono ?_
 rintro e w' ⟨rfl, n, rfl⟩
 exact ⟨rfl, Below.drewN (Q.refl w) n⟩
def awF : P3 := ⟨0, 0, 0⟩
def awT : P3 := ⟨4, 4, 2⟩
theorem aw_ok : MOk 6 80 200 := ⟨by decide, by decide, by decide, by decide, by decide, by decide⟩
theorem bd_zero {n : Nat} (hn : 0 < n) : Bd n 0 := ⟨Nat.pow_pos (by decide), Nat.one_lt_pow (by omega) (by decide)⟩
theorem bd_two : Bd 1 2 := ⟨by decide, by decide⟩
theorem bd_four : Bd 1 4 := ⟨by decide, by decide⟩
theorem awF_b : B3 1 awF := ⟨bd_zero (by decide), bd_zero (by decide), bd_zero (by decide)⟩
theorem awT_b : B3 1 awT := ⟨bd_four, bd_four, bd_two⟩
theorem aw_ne : awF ≠ awT := by decide
theorem aw_sub : awT.sub awF = awT := by
 unfold P3.sub awT awF
 rw [Rat.sub_eq_add_neg, Rat.sub_eq_add_neg, Rat.neg_zero, Rat.add_zero, Rat.add_zero]
theorem aw_sq : awT.sq = 36 := by kernel_rfl
theorem aw_flat : awT.flat.sq = 32 := by kernel_rfl
theorem rstr_two : rstr 2 = [50] := by have := rstr_nat 2; rw [show ((2 : Nat) : Rat) = 2 from rfl] at this; rw [this]; simp [Lib.itoa, Lib.decDigits]
theorem rstr_four : rstr 4 = [52] := by have := rstr_nat 4; rw [show ((4 : Nat) : Rat) = 4 from rfl] at this; rw [this]; simp [Lib.itoa, Lib.decDigits]
theorem rstr_five : rstr 5 = [53] := by have := rstr_nat 5; rw [show ((5 : Nat) : Rat) = 5 from rfl] at this; rw [this]; simp [Lib.itoa, Lib.decDigits]
theorem rstr_six : rstr 6 = [54] := by have := rstr_nat 6; rw [show ((6 : Nat) : Rat) = 6 from rfl] at this; rw [this]; simp [Lib.itoa, Lib.decDigits]
theorem rstr_ten : rstr 10 = [49, 48] := by have := rstr_nat 10; rw [show ((10 : Nat) : Rat) = 10 from rfl] at this; rw [this]; simp [Lib.itoa, Lib.decDigits]
theorem rstr_half : rstr (1 / 2) = [49, 47, 50] := by
 have h1 : (1 / 2 : Rat).num = 1 := by kernel_rfl
 have h2 : (1 / 2 : Rat).den = 2 := by kernel_rfl
 unfold rstr
 rw [h1, h2]
 simp [Lib.itoa, Lib.decDigits]
theorem normM_36 : normM 36 = (6, 1) := by simp [normM, stripAll, primesL, stripP, isqrt]
theorem normM_32 : normM 32 = (4, 2) := by simp [normM, stripAll, primesL, stripP, isqrt]
theorem nd36 : (36 : Rat).num.toNat * (36 : Rat).den = 36 := by kernel_rfl
theorem nd32 : (32 : Rat).num.toNat * (32 : Rat).den = 32 := by kernel_rfl
theorem a36 : aOf 36 = 6 ∧ leftOf 36 = 1 := by unfold aOf leftOf; rw [nd36, normM_36]; exact ⟨by kernel_rfl, rfl⟩
theorem a32 : aOf 32 = 4 ∧ leftOf 32 = 2 := by unfold aOf leftOf; rw [nd32, normM_32]; exact ⟨by kernel_rfl, rfl⟩
theorem aw_num : (6 * (1 / 5) : Rat).num = 6 := by kernel_rfl
theorem aw_den : (6 * (1 / 5) : Rat).den = 5 := by kernel_rfl
theorem aw_sqN : sqN (6 * (1 / 5)) 1 = 36 := by unfold sqN; rw [aw_num]; rfl
theorem aw_term : PTerm (6 * (1 / 5)) 1 := by
 have hb : Bd 2 (6 * (1 / 5)) := ⟨by rw [aw_num]; decide, by rw [aw_den]; decide⟩
 exact ⟨⟨hb.rlim (by decide), fun e => by have := aw_num; rw [e] at this; exact absurd this (by decide), by have := longV_bd hb (by decide); omega, norm_one, (show Bd 40 ((1 : Nat) : Rat) from ⟨by decide, by decide⟩)⟩, by rw [aw_num]; decide, hb.mono (by decide), by rw [aw_den]; decide, by decide⟩
theorem aw_cei : cei (6 * (1 / 5)) 1 = 2 := by
 have hF := flo_is (6 * (1 / 5)) 1
 unfold cei
 rw [aw_sqN, aw_den] at *
 obtain ⟨h1, h2⟩ := hF
 have h3 : flo (6 * (1 / 5)) 1 = 1 := by
  generalize flo (6 * (1 / 5)) 1 = F at *
  rcases Nat.lt_or_ge F 2 with h | h
  ·rcases (show F = 0 ∨ F = 1 by omega) with rfl | rfl
   ·omega
   ·rfl
  ·have := Nat.mul_le_mul h h
   omega
 rw [h3]; rfl
theorem aw_Length (w : World) (hE : Env w) : Calls Tryz.prog 11 #[.agg #[.int .i64 6, .int .i64 0, .int .i64 (-1), .string ⟨#[48]⟩, .string ⟨#[48]⟩, .string ⟨#[48]⟩, .string ⟨#[52]⟩, .string ⟨#[52]⟩, .string ⟨#[50]⟩, .int .i64 80, .int .i64 200]] w fun e w' => ∃ v, e = .returned (.tuple #[v, .int .i64 0]) ∧ Q w w' ∧ w'.ownsRow w.heap.size 56 2 v 1 [.string ⟨#[54]⟩, .string ⟨#[49]⟩] := by
 have h := true_Length (m := 1) (by decide) 6 80 200 aw_ok awF awT awF_b awT_b (by decide) aw_ne w hE (by rw [aw_sub]; exact awT_b) (by rw [aw_sub, aw_sq]; exact ⟨by decide, by decide⟩)
 rw [aw_sub, aw_sq] at h
 unfold VM awF awT at h
 simp only [rstr_zero, rstr_four, rstr_two] at h
 refine h.mono fun e w' ⟨v, hv, hq, hl⟩ => ⟨v, hv, hq, ?_⟩
 rcases hl with ⟨e, _⟩ | ⟨_, hl⟩
 ·exact absurd e (by decide)
 ·unfold Surd1 at hl
  rw [a36.1, a36.2, rstr_six, show ((1 : Nat) : Int) = 1 from rfl, itoa_one] at hl
  exact hl
theorem aw_Run (w : World) (hE : Env w) : Calls Tryz.prog 14 #[.agg #[.int .i64 6, .int .i64 0, .int .i64 (-1), .string ⟨#[48]⟩, .string ⟨#[48]⟩, .string ⟨#[48]⟩, .string ⟨#[52]⟩, .string ⟨#[52]⟩, .string ⟨#[50]⟩, .int .i64 80, .int .i64 200]] w fun e w' => ∃ v, e = .returned (.tuple #[v, .int .i64 0]) ∧ Q w w' ∧ w'.ownsRow w.heap.size 56 2 v 1 [.string ⟨#[52]⟩, .string ⟨#[50]⟩] := by
 have h := true_Run (m := 1) (by decide) 6 80 200 aw_ok awF awT awF_b awT_b (by decide) aw_ne w hE (by rw [aw_sub]; exact ⟨bd_four, bd_four, bd_zero (by decide)⟩) (by rw [aw_sub, aw_flat]; exact ⟨by decide, by decide⟩)
 rw [aw_sub, aw_flat] at h
 unfold VM awF awT at h
 simp only [rstr_zero, rstr_four, rstr_two] at h
 refine h.mono fun e w' ⟨v, hv, hq, hl⟩ => ⟨v, hv, hq, ?_⟩
 rcases hl with ⟨e, _⟩ | ⟨_, hl⟩
 ·exact absurd e (by decide)
 ·unfold Surd1 at hl
  rw [a32.1, a32.2, rstr_four, show Lib.itoa ((2 : Nat) : Int) = [50] by simp [Lib.itoa, Lib.decDigits]] at hl
  exact hl
theorem aw_Rise (w : World) (hE : Env w) : Calls Tryz.prog 15 #[.agg #[.int .i64 6, .int .i64 0, .int .i64 (-1), .string ⟨#[48]⟩, .string ⟨#[48]⟩, .string ⟨#[48]⟩, .string ⟨#[52]⟩, .string ⟨#[52]⟩, .string ⟨#[50]⟩, .int .i64 80, .int .i64 200]] w fun e w' => e = .returned (.tuple #[.string ⟨#[50]⟩, .int .i64 0]) ∧ Q w w' := by
 have h := true_Rise 6 80 200 aw_ok awF awT awF_b awT_b (by decide) aw_ne w hE
 rw [show awT.z - awF.z = 2 by kernel_rfl, rstr_two] at h
 unfold VM awF awT at h
 simp only [rstr_zero, rstr_four, rstr_two] at h
 exact h
theorem aw_Round (w : World) (hE : Env w) : Calls Tryz.prog 16 #[.agg #[.int .i64 6, .int .i64 0, .int .i64 (-1), .string ⟨#[48]⟩, .string ⟨#[48]⟩, .string ⟨#[48]⟩, .string ⟨#[52]⟩, .string ⟨#[52]⟩, .string ⟨#[50]⟩, .int .i64 80, .int .i64 200], .string ⟨#[53]⟩] w fun e w' => e = .returned (.tuple #[.string ⟨#[49, 48]⟩, .int .i64 0]) ∧ Q w w' := by
 have h := true_Round (m := 1) (by decide) 6 80 200 aw_ok awF awT awF_b awT_b (by decide) aw_ne w hE (by rw [aw_sub]; exact awT_b) (by rw [aw_sub, aw_sq]; exact ⟨by decide, by decide⟩) (by rw [aw_sub, aw_sq]; decide) 5 ⟨by decide, by decide⟩ (by decide)
  (by rw [aw_sub, aw_sq, a36.1, a36.2]; exact aw_term) (by rw [aw_sub, aw_sq, a36.1, a36.2, aw_sqN, aw_den]; decide)
 rw [aw_sub, aw_sq, a36.1, a36.2, aw_cei, show (((2 : Nat) : Rat) * 5) = 10 by kernel_rfl, rstr_ten] at h
 unfold VM awF awT at h
 simp only [rstr_zero, rstr_four, rstr_two, rstr_five] at h
 exact h
theorem aw_Along (w : World) (hE : Env w) : Calls Tryz.prog 17 #[.agg #[.int .i64 6, .int .i64 0, .int .i64 (-1), .string ⟨#[48]⟩, .string ⟨#[48]⟩, .string ⟨#[48]⟩, .string ⟨#[52]⟩, .string ⟨#[52]⟩, .string ⟨#[50]⟩, .int .i64 80, .int .i64 200], .string ⟨#[49, 47, 50]⟩] w fun e w' => e = .returned (.tuple #[.agg #[.string ⟨#[50]⟩, .string ⟨#[50]⟩, .string ⟨#[49]⟩], .int .i64 0]) ∧ Q w w' := by
 have n1 : (1 / 2 : Rat).num = 1 := by kernel_rfl
 have n2 : (1 / 2 : Rat).den = 2 := by kernel_rfl
 have h := true_Along (n := 1) (m := 1) 6 80 200 aw_ok awF awT awF_b awT_b (by decide) aw_ne (by rw [aw_sub]; exact awT_b) (1 / 2) ⟨by rw [n1]; decide, by rw [n2]; decide⟩ (by rw [n1]; decide) (by rw [n1, n2]; decide) (by decide) w hE
 rw [aw_sub, show awF.add (awT.scale (1 / 2)) = ⟨2, 2, 1⟩ by kernel_rfl] at h
 unfold VM V3 awF awT at h
 simp only [rstr_zero, rstr_four, rstr_two, rstr_half, rstr_one] at h
 exact h
theorem max_five (w : World) : (Builtin.max_ #[39, 39, 39, 39, 39] 39 #[.int .i64 0, .int .i64 0, .int .i64 0, .int .i64 0, .int .i64 0]).run Tryz.prog w = .ok (.int .i64 0) w := by kernel_rfl
set_option maxRecDepth 100000 in
set_option maxHeartbeats 4000000 in
theorem awake32 (w : World) (hE : Env w) : Calls Tryz.prog 4 #[] w fun e w' => e = .returned (.bool true) ∧ Q w w' := by
 have HL := Lib.hid (fun w hw => aw_Length w hw)
 have HR := Lib.hid (fun w hw => aw_Run w hw)
 have HZ := Lib.hid (fun w hw => aw_Rise w hw)
 have HU := Lib.hid (fun w hw => aw_Round w hw)
 have HA := Lib.hid (fun w hw => aw_Along w hw)
 have HS := Lib.hid (fun X Y Z w => law_spot X Y Z w)
 have hmax := max_five
 go_enter Tryz.func4, Tryz.ntmps4
 have hQ0 := Q.refl w
 go_wp2_with fail
 refine (HS.out [48] [48] [48] _).mono ?_
 rintro e w1 ⟨rfl, hq1⟩
 have hs1 : Q w w1 := Q.trans bt hq1
 have hQ1 : Q w w1 := Q.trans hQ0 hs1
 go_wp2_with fail
 refine (HS.out [52] [52] [50] _).mono ?_
 rintro e w2 ⟨rfl, hq2⟩
 have hs2 : Q w1 w2 := Q.trans bt hq2
 have hQ2 : Q w w2 := Q.trans hQ1 hs2
 go_wp2_with fail
 refine (HL.out _ (hE.ofQ bt)).mono ?_
 rintro e w3 ⟨v1, rfl, hq3, r1⟩
 have hs3 : Q w2 w3 := Q.trans bt hq3
 have hQ3 : Q w w3 := Q.trans hQ2 hs3
 have M := (Blk.new w2 [.int .i64 6, .int .i64 0, .int .i64 (-1), .string ⟨#[48]⟩, .string ⟨#[48]⟩, .string ⟨#[48]⟩, .string ⟨#[52]⟩, .string ⟨#[52]⟩, .string ⟨#[50]⟩, .int .i64 80, .int .i64 200] 33).keep hq3 (by simp)
 replace m0 := M.cell 0
 replace m1 := M.cell 1
 replace m2 := M.cell 2
 replace m3 := M.cell 3
 replace m4 := M.cell 4
 replace m5 := M.cell 5
 replace m6 := M.cell 6
 replace m7 := M.cell 7
 replace m8 := M.cell 8
 replace m9 := M.cell 9
 replace m10 := M.cell 10
 simp only [List.getElem?_cons_zero, List.getElem?_cons_succ] at m0 m1 m2 m3 m4 m5 m6 m7 m8 m9 m10
 replace lM := M.lt
 go_wp2_with fail
 refine (HR.out _ (hE.ofQ bt)).mono ?_
 rintro e w4 ⟨v2, rfl, hq4, r2⟩
 have hs4 : Q w3 w4 := Q.trans bt hq4
 have hQ4 : Q w w4 := Q.trans hQ3 hs4
 replace r1 := ownsRow_keep r1 hs4
 replace M := M.keep hs4 M.lt
 replace m0 := M.cell 0
 replace m1 := M.cell 1
 replace m2 := M.cell 2
 replace m3 := M.cell 3
 replace m4 := M.cell 4
 replace m5 := M.cell 5
 replace m6 := M.cell 6
 replace m7 := M.cell 7
 replace m8 := M.cell 8
 replace m9 := M.cell 9
 replace m10 := M.cell 10
 simp only [List.getElem?_cons_zero, List.getElem?_cons_succ] at m0 m1 m2 m3 m4 m5 m6 m7 m8 m9 m10
 replace lM := M.lt
 go_wp2_with fail
 refine (HZ.out _ (hE.ofQ bt)).mono ?_
 rintro e w5 ⟨rfl, hq5⟩
 have hs5 : Q w4 w5 := Q.trans bt hq5
 have hQ5 : Q w w5 := Q.trans hQ4 hs5
 replace r1 := ownsRow_keep r1 hs5
 replace r2 := ownsRow_keep r2 hs5
 replace M := M.keep hs5 M.lt
 replace m0 := M.cell 0
 replace m1 := M.cell 1
 replace m2 := M.cell 2
 replace m3 := M.cell 3
 replace m4 := M.cell 4
 replace m5 := M.cell 5
 replace m6 := M.cell 6
 replace m7 := M.cell 7
 replace m8 := M.cell 8
 replace m9 := M.cell 9
 replace m10 := M.cell 10
 simp only [List.getElem?_cons_zero, List.getElem?_cons_succ] at m0 m1 m2 m3 m4 m5 m6 m7 m8 m9 m10
 replace lM := M.lt
 go_wp2_with fail
 refine (HU.out _ (hE.ofQ bt)).mono ?_
 rintro e w6 ⟨rfl, hq6⟩
 have hs6 : Q w5 w6 := Q.trans bt hq6
 have hQ6 : Q w w6 := Q.trans hQ5 hs6
 replace r1 := ownsRow_keep r1 hs6
 replace r2 := ownsRow_keep r2 hs6
 replace M := M.keep hs6 M.lt
 replace m0 := M.cell 0
 replace m1 := M.cell 1
 replace m2 := M.cell 2
 replace m3 := M.cell 3
 replace m4 := M.cell 4
 replace m5 := M.cell 5
 replace m6 := M.cell 6
 replace m7 := M.cell 7
 replace m8 := M.cell 8
 replace m9 := M.cell 9
 replace m10 := M.cell 10
 simp only [List.getElem?_cons_zero, List.getElem?_cons_succ] at m0 m1 m2 m3 m4 m5 m6 m7 m8 m9 m10
 replace lM := M.lt
 go_wp2_with fail
 refine (HA.out _ (hE.ofQ bt)).mono ?_
 rintro e w7 ⟨rfl, hq7⟩
 have hs7 : Q w6 w7 := Q.trans bt hq7
 have hQ7 : Q w w7 := Q.trans hQ6 hs7
 replace r1 := ownsRow_keep r1 hs7
 replace r2 := ownsRow_keep r2 hs7
 replace M := M.keep hs7 M.lt
 replace m0 := M.cell 0
 replace m1 := M.cell 1
 replace m2 := M.cell 2
 replace m3 := M.cell 3
 replace m4 := M.cell 4
 replace m5 := M.cell 5
 replace m6 := M.cell 6
 replace m7 := M.cell 7
 replace m8 := M.cell 8
 replace m9 := M.cell 9
 replace m10 := M.cell 10
 simp only [List.getElem?_cons_zero, List.getElem?_cons_succ] at m0 m1 m2 m3 m4 m5 m6 m7 m8 m9 m10
 replace lM := M.lt
 clear M lM m0 m1 m2 m3 m4 m5 m6 m7 m8 m9 m10
 clear HL HR HZ HU HA
 obtain ⟨W0, hW0⟩ : ∃ W0, w7.alloc (.cells #[.string ⟨#[50]⟩, .string ⟨#[50]⟩, .string ⟨#[49]⟩] 31) = W0 := ⟨_, rfl⟩
 have hq0 : Q w7 W0 := by rw [← hW0]; exact bt
 have D : Blk W0 w7.heap.size [.string ⟨#[50]⟩, .string ⟨#[50]⟩, .string ⟨#[49]⟩] 31 := by rw [← hW0]; exact Blk.new w7 _ _
 have k1 := Lib.hid (ownsRow_keep r1 (Q.trans hq0 (Below.drew (Q.refl W0))))
 have k2 := Lib.hid (ownsRow_keep r2 (Q.trans hq0 (Below.drew (Q.refl W0))))
 have hQ0' : Q w W0 := Q.trans hQ7 hq0
 clear hQ0 hQ1 hQ2 hQ3 hQ4 hQ5 hQ6 hQ7 hs1 hs2 hs3 hs4 hs5 hs6 hs7 hq1 hq2 hq3 hq4 hq5 hq6 hq7
 go_wp2_with fail
 clear hW0 hq0
 have d0 := D.drew.cell 0
 have d1 := D.drew.cell 1
 have d2 := D.drew.cell 2
 simp only [List.getElem?_cons_zero, List.getElem?_cons_succ] at d0 d1 d2
 obtain ⟨g1, c1, rfl, -, -⟩ := r1.form (by omega)
 obtain ⟨g2, c2, rfl, -, -⟩ := r2.form (by omega)
 clear r1 r2
 refine wp_steadily 32 (by kernel_rfl) (by kernel_rfl) rfl ?_
 refine steadily_value (i := 0) (v := ?_) rfl rfl (by kernel_rfl) (by kernel_rfl) (fun _ _ _ h => h) (by rfl) ?_ ?_
 rotate_left
 ·(intro w' hq; go_simp; try with_reducible rfl)
 simp only [Act.put, List.setIfInBounds_toArray, List.set_cons_zero, List.set_cons_succ]
 refine steadily_value (i := 1) (v := ?_) rfl rfl (by kernel_rfl) (by kernel_rfl) (fun _ _ _ h => h) (by rfl) ?_ ?_
 rotate_left
 ·(intro w' hq; go_simp; try with_reducible rfl)
 simp only [Act.put, List.setIfInBounds_toArray, List.set_cons_zero, List.set_cons_succ]
 refine steadily_value (i := 2) (v := ?_) rfl rfl (by kernel_rfl) (by kernel_rfl) (fun _ _ _ h => h) (by rfl) ?_ ?_
 rotate_left
 ·(intro w' hq; go_simp; try with_reducible rfl)
 simp only [Act.put, List.setIfInBounds_toArray, List.set_cons_zero, List.set_cons_succ]
 refine steadily_value (i := 3) (v := ?_) rfl rfl (by kernel_rfl) (by kernel_rfl) (fun _ _ _ h => h) (by rfl) ?_ ?_
 rotate_left
 ·(intro w' hq; go_simp; try with_reducible rfl)
 simp only [Act.put, List.setIfInBounds_toArray, List.set_cons_zero, List.set_cons_succ]
 refine steadily_value (i := 4) (v := ?_) rfl rfl (by kernel_rfl) (by kernel_rfl) (fun _ _ _ h => h) (by rfl) ?_ ?_
 rotate_left
 ·(intro w' hq; go_simp; try with_reducible rfl)
 simp only [Act.put, List.setIfInBounds_toArray, List.set_cons_zero, List.set_cons_succ]
 refine steadily_value (i := 5) (v := ?_) rfl rfl (by kernel_rfl) (by kernel_rfl) (fun _ _ _ h => h) (by rfl) ?_ ?_
 rotate_left
 ·(intro w' hq; go_simp; try with_reducible rfl)
 simp only [Act.put, List.setIfInBounds_toArray, List.set_cons_zero, List.set_cons_succ]
 refine steadily_value (i := 6) (v := ?_) rfl rfl (by kernel_rfl) (by kernel_rfl) (fun _ _ _ h => h) (by rfl) ?_ ?_
 rotate_left
 ·(intro w' hq; go_simp; try with_reducible rfl)
 simp only [Act.put, List.setIfInBounds_toArray, List.set_cons_zero, List.set_cons_succ]
 refine steadily_value (i := 7) (v := ?_) rfl rfl (by kernel_rfl) (by kernel_rfl) (fun _ _ _ h => h) (by rfl) ?_ ?_
 rotate_left
 ·(intro w' hq; go_simp; try with_reducible rfl)
 simp only [Act.put, List.setIfInBounds_toArray, List.set_cons_zero, List.set_cons_succ]
 refine steadily_value (i := 8) (v := ?_) rfl rfl (by kernel_rfl) (by kernel_rfl) (fun _ _ _ h => h) (by rfl) ?_ ?_
 rotate_left
 ·(intro w' hq; go_simp; try with_reducible rfl)
 simp only [Act.put, List.setIfInBounds_toArray, List.set_cons_zero, List.set_cons_succ]
 refine steadily_value (i := 9) (v := ?_) rfl rfl (by kernel_rfl) (by kernel_rfl) (fun _ _ _ h => h) (by rfl) ?_ ?_
 rotate_left
 ·(intro w' hq; go_simp; try with_reducible rfl)
 simp only [Act.put, List.setIfInBounds_toArray, List.set_cons_zero, List.set_cons_succ]
 refine steadily_make (i := 10) (fun w' => .slice (some ⟨w'.heap.size, 0, none⟩) 1 1) (.cells #[.string ⟨#[54]⟩, .string ⟨#[49]⟩] 56) rfl rfl (by kernel_rfl) (by rfl) (fun w' hq => ?_) (fun w8 hq8 => ?_)
 ·go_simp; try with_reducible rfl
 simp only [Act.put, List.setIfInBounds_toArray, List.set_cons_zero, List.set_cons_succ]
 have hqa : Q W0.drew (w8.alloc (.cells #[.string ⟨#[54]⟩, .string ⟨#[49]⟩] 56)) := q_alloc hq8 _
 have L1 := Lib.hid (World.ownsRow_lit (base := w8.heap.size) (e := 56) (size := 2) w8 #[.string ⟨#[54]⟩, .string ⟨#[49]⟩] 1 (Nat.le_refl _) (by decide) rfl)
 refine steadily_call (i := 11) (v := _) rfl rfl (by kernel_rfl) (by kernel_rfl) (fun _ _ _ h => h) (by rfl) ?_ (fun w' hq => same_rows _ _ _ _ [54] [49] w' (ownsRow_keep k1.out (Q.trans hqa hq)) (ownsRow_keep L1.out hq)) ?_
 ·(intro w' hq; go_simp; try with_reducible rfl)
 simp only [Act.put, List.setIfInBounds_toArray, List.set_cons_zero, List.set_cons_succ]
 refine steadily_value (i := 12) (v := ?_) rfl rfl (by kernel_rfl) (by kernel_rfl) (fun _ _ _ h => h) (by rfl) ?_ ?_
 rotate_left
 ·(intro w' hq; go_simp; try with_reducible rfl)
 simp only [Act.put, List.setIfInBounds_toArray, List.set_cons_zero, List.set_cons_succ]
 refine steadily_value (i := 13) (v := ?_) rfl rfl (by kernel_rfl) (by kernel_rfl) (fun _ _ _ h => h) (by rfl) ?_ ?_
 rotate_left
 ·(intro w' hq; go_simp; try with_reducible rfl)
 simp only [Act.put, List.setIfInBounds_toArray, List.set_cons_zero, List.set_cons_succ]
 refine steadily_value (i := 14) (v := ?_) rfl rfl (by kernel_rfl) (by kernel_rfl) (fun _ _ _ h => h) (by rfl) ?_ ?_
 rotate_left
 ·(intro w' hq; go_simp; try with_reducible rfl)
 simp only [Act.put, List.setIfInBounds_toArray, List.set_cons_zero, List.set_cons_succ]
 refine steadily_value (i := 15) (v := ?_) rfl rfl (by kernel_rfl) (by kernel_rfl) (fun _ _ _ h => h) (by rfl) ?_ ?_
 rotate_left
 ·(intro w' hq; go_simp; try with_reducible rfl)
 simp only [Act.put, List.setIfInBounds_toArray, List.set_cons_zero, List.set_cons_succ]
 refine steadily_make (i := 16) (fun w' => .slice (some ⟨w'.heap.size, 0, none⟩) 1 1) (.cells #[.string ⟨#[52]⟩, .string ⟨#[50]⟩] 56) rfl rfl (by kernel_rfl) (by rfl) (fun w' hq => ?_) (fun w9 hq9 => ?_)
 ·go_simp; try with_reducible rfl
 simp only [Act.put, List.setIfInBounds_toArray, List.set_cons_zero, List.set_cons_succ]
 have hqb : Q W0.drew (w9.alloc (.cells #[.string ⟨#[52]⟩, .string ⟨#[50]⟩] 56)) := q_alloc (Q.trans hqa hq9) _
 have L2 := Lib.hid (World.ownsRow_lit (base := w9.heap.size) (e := 56) (size := 2) w9 #[.string ⟨#[52]⟩, .string ⟨#[50]⟩] 1 (Nat.le_refl _) (by decide) rfl)
 have e0 := qcell hqb d0
 have e1 := qcell hqb d1
 have e2 := qcell hqb d2
 clear d0 d1 d2
 refine steadily_call (i := 17) (v := _) rfl rfl (by kernel_rfl) (by kernel_rfl) (fun _ _ _ h => h) (by rfl) ?_ (fun w' hq => same_rows _ _ _ _ [52] [50] w' (ownsRow_keep k2.out (Q.trans hqb hq)) (ownsRow_keep L2.out hq)) ?_
 ·(intro w' hq; go_simp; try with_reducible rfl)
 simp only [Act.put, List.setIfInBounds_toArray, List.set_cons_zero, List.set_cons_succ]
 refine steadily_value (i := 18) (v := ?_) rfl rfl (by kernel_rfl) (by kernel_rfl) (fun _ _ _ h => h) (by rfl) ?_ ?_
 rotate_left
 ·(intro w' hq; go_simp; try with_reducible rfl)
 simp only [Act.put, List.setIfInBounds_toArray, List.set_cons_zero, List.set_cons_succ]
 refine steadily_value (i := 19) (v := ?_) rfl rfl (by kernel_rfl) (by kernel_rfl) (fun _ _ _ h => h) (by rfl) ?_ ?_
 rotate_left
 ·(intro w' hq; go_simp; try with_reducible rfl)
 simp only [Act.put, List.setIfInBounds_toArray, List.set_cons_zero, List.set_cons_succ]
 refine steadily_value (i := 20) (v := ?_) rfl rfl (by kernel_rfl) (by kernel_rfl) (fun _ _ _ h => h) (by rfl) ?_ ?_
 rotate_left
 ·(intro w' hq; go_simp; try with_reducible rfl)
 simp only [Act.put, List.setIfInBounds_toArray, List.set_cons_zero, List.set_cons_succ]
 refine steadily_value (i := 21) (v := ?_) rfl rfl (by kernel_rfl) (by kernel_rfl) (fun _ _ _ h => h) (by rfl) ?_ ?_
 rotate_left
 ·(intro w' hq; go_simp; try with_reducible rfl)
 simp only [Act.put, List.setIfInBounds_toArray, List.set_cons_zero, List.set_cons_succ]
 refine steadily_value (i := 22) (v := ?_) rfl rfl (by kernel_rfl) (by kernel_rfl) (fun _ _ _ h => h) (by rfl) ?_ ?_
 rotate_left
 ·(intro w' hq; go_simp; try with_reducible rfl)
 simp only [Act.put, List.setIfInBounds_toArray, List.set_cons_zero, List.set_cons_succ]
 refine steadily_value (i := 23) (v := ?_) rfl rfl (by kernel_rfl) (by kernel_rfl) (fun _ _ _ h => h) (by rfl) ?_ ?_
 rotate_left
 ·(intro w' hq; go_simp; try with_reducible rfl)
 simp only [Act.put, List.setIfInBounds_toArray, List.set_cons_zero, List.set_cons_succ]
 refine steadily_value (i := 24) (v := ?_) rfl rfl (by kernel_rfl) (by kernel_rfl) (fun _ _ _ h => h) (by rfl) ?_ ?_
 rotate_left
 ·(intro w' hq; go_simp; try with_reducible rfl)
 simp only [Act.put, List.setIfInBounds_toArray, List.set_cons_zero, List.set_cons_succ]
 refine steadily_value (i := 25) (v := ?_) rfl rfl (by kernel_rfl) (by kernel_rfl) (fun _ _ _ h => h) (by rfl) ?_ ?_
 rotate_left
 ·(intro w' hq; go_simp; try with_reducible rfl)
 simp only [Act.put, List.setIfInBounds_toArray, List.set_cons_zero, List.set_cons_succ]
 refine steadily_value (i := 26) (v := ?_) rfl rfl (by kernel_rfl) (by kernel_rfl) (fun _ _ _ h => h) (by rfl) ?_ ?_
 rotate_left
 ·(intro w' hq; go_simp; try with_reducible rfl)
 simp only [Act.put, List.setIfInBounds_toArray, List.set_cons_zero, List.set_cons_succ]
 refine steadily_value (i := 27) (v := ?_) rfl rfl (by kernel_rfl) (by kernel_rfl) (fun _ _ _ h => h) (by rfl) ?_ ?_
 rotate_left
 ·(intro w' hq; go_simp; try with_reducible rfl)
 simp only [Act.put, List.setIfInBounds_toArray, List.set_cons_zero, List.set_cons_succ]
 refine steadily_value (i := 28) (v := ?_) rfl rfl (by kernel_rfl) (by kernel_rfl) (fun _ _ _ h => h) (by rfl) ?_ ?_
 rotate_left
 ·(intro w' hq; have hc0 := qcell hq e0; have hc1 := qcell hq e1; have hc2 := qcell hq e2; go_simp; try with_reducible rfl)
 simp only [Act.put, List.setIfInBounds_toArray, List.set_cons_zero, List.set_cons_succ]
 refine steadily_call (i := 29) (v := _) rfl rfl (by kernel_rfl) (by kernel_rfl) (fun _ _ _ h => h) (by rfl) ?_ (fun w' hq => HS.out [50] [50] [49] w') ?_
 ·(intro w' hq; go_simp; try with_reducible rfl)
 simp only [Act.put, List.setIfInBounds_toArray, List.set_cons_zero, List.set_cons_succ]
 refine steadily_value (i := 30) (v := ?_) rfl rfl (by kernel_rfl) (by kernel_rfl) (fun _ _ _ h => h) (by rfl) ?_ ?_
 rotate_left
 ·(intro w' hq; go_simp; try with_reducible rfl)
 simp only [Act.put, List.setIfInBounds_toArray, List.set_cons_zero, List.set_cons_succ]
 refine steadily_value (i := 31) (v := ?_) rfl rfl (by kernel_rfl) (by kernel_rfl) (fun _ _ _ h => h) (by rfl) ?_ ?_
 rotate_left
 ·(intro w' hq; go_simp; try with_reducible rfl)
 simp only [Act.put, List.setIfInBounds_toArray, List.set_cons_zero, List.set_cons_succ]
 refine steadily_done (by kernel_rfl) (fun w10 hq10 => ?_)
 simp only [List.drop_succ_cons, List.drop_zero]
 have hQ10 : Q w w10 := Q.trans hQ0' (Q.trans (Q.trans (Below.drew (Q.refl W0)) hqb) hq10)
 clear e0 e1 e2 L1 L2 k1 k2
 go_wp2
 go_ret
 exact ⟨rfl, hQ10⟩
end Go.Proofs.YtedijdmenfcjlaaGreatDoor
namespace Go.Proofs.YtedijdmenfcjlaaGreatDoor
open Go.RowKit Kp
open Go.Lib (decDigits)
set_option maxHeartbeats 1000000 in
theorem law_num (n : Int) (k : Nat) (hk : 0 < k) (hn : n.natAbs < 100000000000000000) (hd : k < 100000000000000000) (w : World) (hE : Env w) :
  Calls Tryz.prog 20 #[.int .i64 n, .int .i64 k] w fun e w' => e = .returned (.string ⟨(rstr (Rat.divInt n k)).toArray⟩) ∧ Q w w' := by
 have HO := Lib.hid (fun w hw => rational_Of_short n k hk hn hd w hw)
 generalize rstr (Rat.divInt n k) = R at *
 go_enter Tryz.func20, Tryz.ntmps20
 have hQ0 := Q.refl w
 go_wp2_with fail
 refine (HO.out _ (hE.ofQ bt)).mono ?_
 rintro e w1 ⟨rfl, hq1⟩
 have hs1 : Q w w1 := Q.trans bt hq1
 have hQ1 : Q w w1 := Q.trans hQ0 hs1
 go_wp2
 go_ret
 exact ⟨rfl, bt⟩
def I8 (a : Int) : Prop := -128 ≤ a ∧ a ≤ 127
def half (a b c : Int) : P3 := ⟨Rat.divInt a (2 : Nat), Rat.divInt b (2 : Nat), Rat.divInt c (2 : Nat)⟩
set_option maxRecDepth 100000 in
set_option maxHeartbeats 1000000 in
theorem law_at (a b c : Int) (ha : I8 a) (hb : I8 b) (hc : I8 c) (w : World) (hE : Env w) :
  Calls Tryz.prog 19 #[.agg #[.int .i8 a, .int .i8 b, .int .i8 c]] w fun e w' => e = .returned (V3 (half a b c)) ∧ Q w w' := by
 have HA := Lib.hid (fun w hw => law_num a 2 (by decide) (by have := ha.1; have := ha.2; omega) (by decide) w hw)
 have HB := Lib.hid (fun w hw => law_num b 2 (by decide) (by have := hb.1; have := hb.2; omega) (by decide) w hw)
 have HC := Lib.hid (fun w hw => law_num c 2 (by decide) (by have := hc.1; have := hc.2; omega) (by decide) w hw)
 have wa := Go.IntWalk.i64_in a (by have := ha.1; have := ha.2; omega)
 have wb := Go.IntWalk.i64_in b (by have := hb.1; have := hb.2; omega)
 have wc := Go.IntWalk.i64_in c (by have := hc.1; have := hc.2; omega)
 unfold V3 half
 clear ha hb hc
 simp only at *
 generalize rstr (Rat.divInt a (2 : Nat)) = X at *
 generalize rstr (Rat.divInt b (2 : Nat)) = Y at *
 generalize rstr (Rat.divInt c (2 : Nat)) = Z at *
 have HS := Lib.hid (fun w => law_spot X Y Z w)
 go_enter Tryz.func19, Tryz.ntmps19
 obtain ⟨W0, hW0⟩ : ∃ W0, (w.alloc (.cells #[.int .i8 a, .int .i8 b, .int .i8 c] 26)).alloc (.cells #[.string ⟨#[]⟩, .string ⟨#[]⟩, .string ⟨#[]⟩] 31) = W0 := ⟨_, rfl⟩
 have hq0 : Q w W0 := by rw [← hW0]; exact bt
 have P : Blk W0 w.heap.size [.int .i8 a, .int .i8 b, .int .i8 c] 26 := by rw [← hW0]; exact (Blk.new w _ _).alloc _
 have R : Blk W0 (w.heap.size + 1) [.string ⟨#[]⟩, .string ⟨#[]⟩, .string ⟨#[]⟩] 31 := by rw [← hW0]; exact Blk.new1 w _ _ _
 go_wp2_with fail
 try rw [hW0]
 clear hW0
 have d0 := P.drew.cell 0
 have d1 := P.drew.cell 1
 have d2 := P.drew.cell 2
 simp only [List.getElem?_cons_zero, List.getElem?_cons_succ] at d0 d1 d2
 have hqd : Q W0 W0.drew := Below.drew (Q.refl W0)
 refine wp_steadily 13 (by kernel_rfl) (by kernel_rfl) rfl ?_
 refine steadily_value (i := 0) (v := ?_) rfl rfl (by kernel_rfl) (by kernel_rfl) (fun _ _ _ h => h) (by rfl) ?_ ?_
 rotate_left
 ·(intro w' hq; go_simp; try with_reducible rfl)
 simp only [Act.put, List.setIfInBounds_toArray, List.set_cons_zero, List.set_cons_succ]
 refine steadily_value (i := 1) (v := ?_) rfl rfl (by kernel_rfl) (by kernel_rfl) (fun _ _ _ h => h) (by rfl) ?_ ?_
 rotate_left
 ·(intro w' hq; have hc0 := qcell hq d0; go_simp; try with_reducible rfl)
 simp only [Act.put, List.setIfInBounds_toArray, List.set_cons_zero, List.set_cons_succ]
 refine steadily_value (i := 2) (v := ?_) rfl rfl (by kernel_rfl) (by kernel_rfl) (fun _ _ _ h => h) (by rfl) ?_ ?_
 rotate_left
 ·(intro w' hq; go_simp; try with_reducible rfl)
 simp only [Act.put, List.setIfInBounds_toArray, List.set_cons_zero, List.set_cons_succ]
 refine steadily_call (i := 3) (v := _) rfl rfl (by kernel_rfl) (by kernel_rfl) (fun _ _ _ h => h) (by rfl) ?_ (fun w' hq => HA.out w' (hE.q (Q.trans hq0 (Q.trans hqd hq)))) ?_
 ·(intro w' hq; go_simp; try with_reducible rfl)
 simp only [Act.put, List.setIfInBounds_toArray, List.set_cons_zero, List.set_cons_succ]
 refine steadily_value (i := 4) (v := ?_) rfl rfl (by kernel_rfl) (by kernel_rfl) (fun _ _ _ h => h) (by rfl) ?_ ?_
 rotate_left
 ·(intro w' hq; go_simp; try with_reducible rfl)
 simp only [Act.put, List.setIfInBounds_toArray, List.set_cons_zero, List.set_cons_succ]
 refine steadily_value (i := 5) (v := ?_) rfl rfl (by kernel_rfl) (by kernel_rfl) (fun _ _ _ h => h) (by rfl) ?_ ?_
 rotate_left
 ·(intro w' hq; have hc0 := qcell hq d1; go_simp; try with_reducible rfl)
 simp only [Act.put, List.setIfInBounds_toArray, List.set_cons_zero, List.set_cons_succ]
 refine steadily_value (i := 6) (v := ?_) rfl rfl (by kernel_rfl) (by kernel_rfl) (fun _ _ _ h => h) (by rfl) ?_ ?_
 rotate_left
 ·(intro w' hq; go_simp; try with_reducible rfl)
 simp only [Act.put, List.setIfInBounds_toArray, List.set_cons_zero, List.set_cons_succ]
 refine steadily_call (i := 7) (v := _) rfl rfl (by kernel_rfl) (by kernel_rfl) (fun _ _ _ h => h) (by rfl) ?_ (fun w' hq => HB.out w' (hE.q (Q.trans hq0 (Q.trans hqd hq)))) ?_
 ·(intro w' hq; go_simp; try with_reducible rfl)
 simp only [Act.put, List.setIfInBounds_toArray, List.set_cons_zero, List.set_cons_succ]
 refine steadily_value (i := 8) (v := ?_) rfl rfl (by kernel_rfl) (by kernel_rfl) (fun _ _ _ h => h) (by rfl) ?_ ?_
 rotate_left
 ·(intro w' hq; go_simp; try with_reducible rfl)
 simp only [Act.put, List.setIfInBounds_toArray, List.set_cons_zero, List.set_cons_succ]
 refine steadily_value (i := 9) (v := ?_) rfl rfl (by kernel_rfl) (by kernel_rfl) (fun _ _ _ h => h) (by rfl) ?_ ?_
 rotate_left
 ·(intro w' hq; have hc0 := qcell hq d2; go_simp; try with_reducible rfl)
 simp only [Act.put, List.setIfInBounds_toArray, List.set_cons_zero, List.set_cons_succ]
 refine steadily_value (i := 10) (v := ?_) rfl rfl (by kernel_rfl) (by kernel_rfl) (fun _ _ _ h => h) (by rfl) ?_ ?_
 rotate_left
 ·(intro w' hq; go_simp; try with_reducible rfl)
 simp only [Act.put, List.setIfInBounds_toArray, List.set_cons_zero, List.set_cons_succ]
 refine steadily_call (i := 11) (v := _) rfl rfl (by kernel_rfl) (by kernel_rfl) (fun _ _ _ h => h) (by rfl) ?_ (fun w' hq => HC.out w' (hE.q (Q.trans hq0 (Q.trans hqd hq)))) ?_
 ·(intro w' hq; go_simp; try with_reducible rfl)
 simp only [Act.put, List.setIfInBounds_toArray, List.set_cons_zero, List.set_cons_succ]
 refine steadily_call (i := 12) (v := _) rfl rfl (by kernel_rfl) (by kernel_rfl) (fun _ _ _ h => h) (by rfl) ?_ (fun w' hq => HS.out w') ?_
 ·(intro w' hq; go_simp; try with_reducible rfl)
 simp only [Act.put, List.setIfInBounds_toArray, List.set_cons_zero, List.set_cons_succ]
 refine steadily_done (by kernel_rfl) (fun w3 hq3 => ?_)
 simp only [List.drop_succ_cons, List.drop_zero]
 have hqq : Q W0 w3 := Q.trans hqd hq3
 have hQ3 : Q w w3 := Q.trans hq0 hqq
 replace R := R.keep hqq R.lt
 have lR := R.lt
 have r0 := R.cell 0
 have r1 := R.cell 1
 have r2 := R.cell 2
 have f0 := R.frozen 0
 have f1 := R.frozen 1
 have f2 := R.frozen 2
 simp only [List.getElem?_cons_zero, List.getElem?_cons_succ] at r0 r1 r2
 clear P d0 d1 d2
 go_wp2
 refine bodyPost_ret (v := .agg #[.string ⟨X.toArray⟩, .string ⟨Y.toArray⟩, .string ⟨Z.toArray⟩]) (ret_c3 Tryz.results19 (.inl rfl) _ _ (w.heap.size + 1) _ _ _ rfl (R.set3.cell 0) (R.set3.cell 1) (R.set3.cell 2)) rfl ⟨rfl, bt⟩
theorem ret_c11 {fn : Func} {m : Tmp} (hf : fn.results = #[.cell m 33]) (tmps : Array Value) (W : World) (b : Nat) (x0 x1 x2 x3 x4 x5 x6 x7 x8 x9 x10 : Value) (hp : tmps.getD m undef = .pointer (some ⟨b, 0, none⟩))
  (c0 : W.cell? ⟨b, 0, none⟩ = some x0) (c1 : W.cell? ⟨b, 1, none⟩ = some x1) (c2 : W.cell? ⟨b, 2, none⟩ = some x2) (c3 : W.cell? ⟨b, 3, none⟩ = some x3) (c4 : W.cell? ⟨b, 4, none⟩ = some x4) (c5 : W.cell? ⟨b, 5, none⟩ = some x5)
  (c6 : W.cell? ⟨b, 6, none⟩ = some x6) (c7 : W.cell? ⟨b, 7, none⟩ = some x7) (c8 : W.cell? ⟨b, 8, none⟩ = some x8) (c9 : W.cell? ⟨b, 9, none⟩ = some x9) (c10 : W.cell? ⟨b, 10, none⟩ = some x10) :
  (results fn tmps).run Tryz.prog W = .ok (.agg #[x0, x1, x2, x3, x4, x5, x6, x7, x8, x9, x10]) W := by
 simp only [Array.getD_eq_getD_getElem?] at hp
 simp [results, hf, go_sem, hp, c0, c1, c2, c3, c4, c5, c6, c7, c8, c9, c10]
theorem Blk.set11 {w : World} {b : Nat} {y0 y1 y2 y3 y4 y5 y6 y7 y8 y9 y10 x0 x1 x2 x3 x4 x5 x6 x7 x8 x9 x10 : Value} {t : TypeId} (h : Blk w b [y0, y1, y2, y3, y4, y5, y6, y7, y8, y9, y10] t) :
  Blk (((((((((((w.setCell ⟨b, 0, none⟩ x0).setCell ⟨b, 1, none⟩ x1).setCell ⟨b, 2, none⟩ x2).setCell ⟨b, 3, none⟩ x3).setCell ⟨b, 4, none⟩ x4).setCell ⟨b, 5, none⟩ x5).setCell ⟨b, 6, none⟩ x6).setCell ⟨b, 7, none⟩ x7).setCell ⟨b, 8, none⟩ x8).setCell ⟨b, 9, none⟩ x9).setCell ⟨b, 10, none⟩ x10) b [x0, x1, x2, x3, x4, x5, x6, x7, x8, x9, x10] t :=
 ((((((((((h.set 0 x0).set 1 x1).set 2 x2).set 3 x3).set 4 x4).set 5 x5).set 6 x6).set 7 x7).set 8 x8).set 9 x9).set 10 x10
theorem q_set {w W : World} (h : Q w W) {b : Nat} (hb : w.heap.size ≤ b) (i : Nat) (v : Value) : Q w (W.setCell ⟨b, i, none⟩ v) := h.setCell (p := ⟨b, i, none⟩) hb v
theorem q_set11 {w W : World} (h : Q w W) {b : Nat} (hb : w.heap.size ≤ b) {x0 x1 x2 x3 x4 x5 x6 x7 x8 x9 x10 : Value} :
  Q w (((((((((((W.setCell ⟨b, 0, none⟩ x0).setCell ⟨b, 1, none⟩ x1).setCell ⟨b, 2, none⟩ x2).setCell ⟨b, 3, none⟩ x3).setCell ⟨b, 4, none⟩ x4).setCell ⟨b, 5, none⟩ x5).setCell ⟨b, 6, none⟩ x6).setCell ⟨b, 7, none⟩ x7).setCell ⟨b, 8, none⟩ x8).setCell ⟨b, 9, none⟩ x9).setCell ⟨b, 10, none⟩ x10) :=
 q_set (q_set (q_set (q_set (q_set (q_set (q_set (q_set (q_set (q_set (q_set h hb 0 x0) hb 1 x1) hb 2 x2) hb 3 x3) hb 4 x4) hb 5 x5) hb 6 x6) hb 7 x7) hb 8 x8) hb 9 x9) hb 10 x10
set_option maxRecDepth 100000 in
theorem eq_i8 (a b c d e f : Int) (w : World) : (Op.equalIn 10000 26 (.agg #[.int .i8 a, .int .i8 b, .int .i8 c]) (.agg #[.int .i8 d, .int .i8 e, .int .i8 f])).run Tryz.prog w = .ok (decide (a = d ∧ b = e ∧ c = f)) w := by
 have u3 := Tryz.underlying25
 have a3 := Tryz.isAgg25
 have z3 := Tryz.sizeOf25
 rw [show (10000 : Nat) = 9999 + 1 from rfl, Op.equalIn]
 simp only [Sem.run_bind, run_underlying Tryz.underlying26, Result.andThen_ok]
 simp only [Std.Legacy.Range.forIn_eq_forIn_range', Std.Legacy.Range.size, Nat.sub_zero, Nat.add_sub_cancel, Nat.div_one, List.range'_succ, List.range'_zero, List.forIn_cons, List.forIn_nil]
 go_simp
 by_cases h1 : a = d <;> by_cases h2 : b = e <;> by_cases h3 : c = f <;> simp [h1, h2, h3]
def toX (a b c d e f : Int) : Int := if a = d ∧ b = e ∧ c = f then (if a = 127 then -128 else a + 1) else d
set_option maxRecDepth 100000 in
set_option maxHeartbeats 2000000 in
theorem law_of (a b c d e f : Int) (ha : I8 a) (hb : I8 b) (hc : I8 c) (hd : I8 d) (he : I8 e) (hf : I8 f) (w : World) (hE : Env w) :
  Calls Tryz.prog 5 #[.agg #[.int .i8 a, .int .i8 b, .int .i8 c, .int .i8 d, .int .i8 e, .int .i8 f]] w fun e' w' => e' = .returned (VM 1 60 180 (half a b c) (half (toX a b c d e f) e f)) ∧ Q w w' := by
 have ht : I8 (toX a b c d e f) := by
  unfold toX
  have := ha.1; have := ha.2
  split
  ·split
   ·exact ⟨by decide, by decide⟩
   ·exact ⟨by omega, by omega⟩
  ·exact hd
 have HA := Lib.hid (fun w hw => law_at a b c ha hb hc w hw)
 have HB := Lib.hid (fun w hw => law_at (toX a b c d e f) e f ht he hf w hw)
 unfold VM V3 half at *
 simp only at *
 generalize rstr (Rat.divInt a (2 : Nat)) = X at *
 generalize rstr (Rat.divInt b (2 : Nat)) = Y at *
 generalize rstr (Rat.divInt c (2 : Nat)) = Z at *
 generalize rstr (Rat.divInt (toX a b c d e f) (2 : Nat)) = X' at *
 generalize rstr (Rat.divInt e (2 : Nat)) = Y' at *
 generalize rstr (Rat.divInt f (2 : Nat)) = Z' at *
 by_cases heq : a = d ∧ b = e ∧ c = f
 ·have ei : toX a b c d e f = IntKind.i8.wrap (a + 1) := by
   unfold toX
   rw [if_pos heq]
   have := ha.1; have := ha.2
   split
   ·next h => subst h; rfl
   ·rw [Go.IntWalk.i8_in (a + 1) (by omega)]
  rw [ei] at HB
  obtain ⟨rfl, rfl, rfl⟩ := heq
  clear ht ei ha hb hc hd he hf
  have hEq := eq_i8 a b c a b c
  rw [show decide (a = a ∧ b = b ∧ c = c) = true by simp] at hEq
  go_enter Tryz.func5, Tryz.ntmps5
  go_wp2_with fail
  obtain ⟨W0, hW0⟩ : ∃ W0, (w.alloc (.cells #[.int .i8 a, .int .i8 b, .int .i8 c, .int .i8 (IntKind.i8.wrap (a + 1)), .int .i8 b, .int .i8 c] 28)).alloc (.cells #[.int .i64 0, .int .i64 0, .int .i64 0, .string ⟨#[]⟩, .string ⟨#[]⟩, .string ⟨#[]⟩, .string ⟨#[]⟩, .string ⟨#[]⟩, .string ⟨#[]⟩, .int .i64 0, .int .i64 0] 33) = W0 := ⟨_, rfl⟩
  have hq0 : Q w W0 := by rw [← hW0]; exact bt
  have P : Blk W0 w.heap.size [.int .i8 a, .int .i8 b, .int .i8 c, .int .i8 (IntKind.i8.wrap (a + 1)), .int .i8 b, .int .i8 c] 28 := by rw [← hW0]; exact (Blk.new w _ _).alloc _
  have R : Blk W0 (w.heap.size + 1) [.int .i64 0, .int .i64 0, .int .i64 0, .string ⟨#[]⟩, .string ⟨#[]⟩, .string ⟨#[]⟩, .string ⟨#[]⟩, .string ⟨#[]⟩, .string ⟨#[]⟩, .int .i64 0, .int .i64 0] 33 := by rw [← hW0]; exact Blk.new1 w _ _ _
  rw [hW0]
  clear hW0
  have d0 := P.drew.cell 0
  have d1 := P.drew.cell 1
  have d2 := P.drew.cell 2
  have d3 := P.drew.cell 3
  have d4 := P.drew.cell 4
  have d5 := P.drew.cell 5
  simp only [List.getElem?_cons_zero, List.getElem?_cons_succ] at d0 d1 d2 d3 d4 d5
  have hqd : Q W0 W0.drew := Below.drew (Q.refl W0)
  refine wp_steadily 9 (by kernel_rfl) (by kernel_rfl) rfl ?_
  refine steadily_value (i := 0) (v := ?_) rfl rfl (by kernel_rfl) (by kernel_rfl) (fun _ _ _ h => h) (by rfl) ?_ ?_
  rotate_left
  ·(intro w' hq; go_simp; try with_reducible rfl)
  simp only [Act.put, List.setIfInBounds_toArray, List.set_cons_zero, List.set_cons_succ]
  refine steadily_value (i := 1) (v := ?_) rfl rfl (by kernel_rfl) (by kernel_rfl) (fun _ _ _ h => h) (by rfl) ?_ ?_
  rotate_left
  ·(intro w' hq; go_simp; try with_reducible rfl)
  simp only [Act.put, List.setIfInBounds_toArray, List.set_cons_zero, List.set_cons_succ]
  refine steadily_value (i := 2) (v := ?_) rfl rfl (by kernel_rfl) (by kernel_rfl) (fun _ _ _ h => h) (by rfl) ?_ ?_
  rotate_left
  ·(intro w' hq; have hc0 := qcell hq d0; have hc1 := qcell hq d1; have hc2 := qcell hq d2; go_simp; try with_reducible rfl)
  simp only [Act.put, List.setIfInBounds_toArray, List.set_cons_zero, List.set_cons_succ]
  refine steadily_call (i := 3) (v := _) rfl rfl (by kernel_rfl) (by kernel_rfl) (fun _ _ _ h => h) (by rfl) ?_ (fun w' hq => HA.out w' (hE.q (Q.trans hq0 (Q.trans hqd hq)))) ?_
  ·(intro w' hq; go_simp; try with_reducible rfl)
  simp only [Act.put, List.setIfInBounds_toArray, List.set_cons_zero, List.set_cons_succ]
  refine steadily_value (i := 4) (v := ?_) rfl rfl (by kernel_rfl) (by kernel_rfl) (fun _ _ _ h => h) (by rfl) ?_ ?_
  rotate_left
  ·(intro w' hq; go_simp; try with_reducible rfl)
  simp only [Act.put, List.setIfInBounds_toArray, List.set_cons_zero, List.set_cons_succ]
  refine steadily_value (i := 5) (v := ?_) rfl rfl (by kernel_rfl) (by kernel_rfl) (fun _ _ _ h => h) (by rfl) ?_ ?_
  rotate_left
  ·(intro w' hq; go_simp; try with_reducible rfl)
  simp only [Act.put, List.setIfInBounds_toArray, List.set_cons_zero, List.set_cons_succ]
  refine steadily_value (i := 6) (v := ?_) rfl rfl (by kernel_rfl) (by kernel_rfl) (fun _ _ _ h => h) (by rfl) ?_ ?_
  rotate_left
  ·(intro w' hq; have hc0 := qcell hq d3; have hc1 := qcell hq d4; have hc2 := qcell hq d5; go_simp; try with_reducible rfl)
  simp only [Act.put, List.setIfInBounds_toArray, List.set_cons_zero, List.set_cons_succ]
  refine steadily_call (i := 7) (v := _) rfl rfl (by kernel_rfl) (by kernel_rfl) (fun _ _ _ h => h) (by rfl) ?_ (fun w' hq => HB.out w' (hE.q (Q.trans hq0 (Q.trans hqd hq)))) ?_
  ·(intro w' hq; go_simp; try with_reducible rfl)
  simp only [Act.put, List.setIfInBounds_toArray, List.set_cons_zero, List.set_cons_succ]
  refine steadily_value (i := 8) (v := ?_) rfl rfl (by kernel_rfl) (by kernel_rfl) (fun _ _ _ h => h) (by rfl) ?_ ?_
  rotate_left
  ·(intro w' hq; go_simp; try with_reducible rfl)
  simp only [Act.put, List.setIfInBounds_toArray, List.set_cons_zero, List.set_cons_succ]
  refine steadily_done (by kernel_rfl) (fun w3 hq3 => ?_)
  simp only [List.drop_succ_cons, List.drop_zero]
  have hqq : Q W0 w3 := Q.trans hqd hq3
  have hQ3 : Q w w3 := Q.trans hq0 hqq
  replace R := R.keep hqq R.lt
  have lR := R.lt
  have r0 := R.cell 0
  have f0 := R.frozen 0
  have r1 := R.cell 1
  have f1 := R.frozen 1
  have r2 := R.cell 2
  have f2 := R.frozen 2
  have r3 := R.cell 3
  have f3 := R.frozen 3
  have r4 := R.cell 4
  have f4 := R.frozen 4
  have r5 := R.cell 5
  have f5 := R.frozen 5
  have r6 := R.cell 6
  have f6 := R.frozen 6
  have r7 := R.cell 7
  have f7 := R.frozen 7
  have r8 := R.cell 8
  have f8 := R.frozen 8
  have r9 := R.cell 9
  have f9 := R.frozen 9
  have r10 := R.cell 10
  have f10 := R.frozen 10
  simp only [List.getElem?_cons_zero, List.getElem?_cons_succ] at r0 r1 r2 r3 r4 r5 r6 r7 r8 r9 r10
  clear P d0 d1 d2 d3 d4 d5
  go_wp2
  have R' := R.set11 (x0 := .int .i64 1) (x1 := .int .i64 0) (x2 := .int .i64 (-1)) (x3 := .string ⟨X.toArray⟩) (x4 := .string ⟨Y.toArray⟩) (x5 := .string ⟨Z.toArray⟩) (x6 := .string ⟨X'.toArray⟩) (x7 := .string ⟨Y'.toArray⟩) (x8 := .string ⟨Z'.toArray⟩) (x9 := .int .i64 60) (x10 := .int .i64 180)
  clear R r0 r1 r2 r3 r4 r5 r6 r7 r8 r9 r10 f0 f1 f2 f3 f4 f5 f6 f7 f8 f9 f10
  have hQ' := q_set11 hQ3 (show w.heap.size ≤ w.heap.size + 1 by omega) (x0 := .int .i64 1) (x1 := .int .i64 0) (x2 := .int .i64 (-1)) (x3 := .string ⟨X.toArray⟩) (x4 := .string ⟨Y.toArray⟩) (x5 := .string ⟨Z.toArray⟩) (x6 := .string ⟨X'.toArray⟩) (x7 := .string ⟨Y'.toArray⟩) (x8 := .string ⟨Z'.toArray⟩) (x9 := .int .i64 60) (x10 := .int .i64 180)
  obtain ⟨W9, hW9⟩ : ∃ W9, ((((((((((((w3.setCell ⟨w.heap.size + 1, 0, none⟩ (.int .i64 1)).setCell ⟨w.heap.size + 1, 1, none⟩ (.int .i64 0)).setCell ⟨w.heap.size + 1, 2, none⟩ (.int .i64 (-1))).setCell ⟨w.heap.size + 1, 3, none⟩ (.string ⟨X.toArray⟩)).setCell ⟨w.heap.size + 1, 4, none⟩ (.string ⟨Y.toArray⟩)).setCell ⟨w.heap.size + 1, 5, none⟩ (.string ⟨Z.toArray⟩)).setCell ⟨w.heap.size + 1, 6, none⟩ (.string ⟨X'.toArray⟩)).setCell ⟨w.heap.size + 1, 7, none⟩ (.string ⟨Y'.toArray⟩)).setCell ⟨w.heap.size + 1, 8, none⟩ (.string ⟨Z'.toArray⟩)).setCell ⟨w.heap.size + 1, 9, none⟩ (.int .i64 60)).setCell ⟨w.heap.size + 1, 10, none⟩ (.int .i64 180))) = W9 := ⟨_, rfl⟩
  rw [hW9] at R' hQ' ⊢
  clear hW9
  refine bodyPost_ret (v := .agg #[.int .i64 1, .int .i64 0, .int .i64 (-1), .string ⟨X.toArray⟩, .string ⟨Y.toArray⟩, .string ⟨Z.toArray⟩, .string ⟨X'.toArray⟩, .string ⟨Y'.toArray⟩, .string ⟨Z'.toArray⟩, .int .i64 60, .int .i64 180]) (ret_c11 Tryz.results5 _ _ (w.heap.size + 1) _ _ _ _ _ _ _ _ _ _ _ rfl (R'.cell 0) (R'.cell 1) (R'.cell 2) (R'.cell 3) (R'.cell 4) (R'.cell 5) (R'.cell 6) (R'.cell 7) (R'.cell 8) (R'.cell 9) (R'.cell 10)) rfl ⟨rfl, hQ'⟩
 ·have ei : toX a b c d e f = d := by unfold toX; rw [if_neg heq]
  rw [ei] at HB
  clear ht ei ha hb hc hd he hf
  have hEq := eq_i8 a b c d e f
  rw [decide_eq_false heq] at hEq
  go_enter Tryz.func5, Tryz.ntmps5
  go_wp2_with fail
  obtain ⟨W0, hW0⟩ : ∃ W0, (w.alloc (.cells #[.int .i8 a, .int .i8 b, .int .i8 c, .int .i8 d, .int .i8 e, .int .i8 f] 28)).alloc (.cells #[.int .i64 0, .int .i64 0, .int .i64 0, .string ⟨#[]⟩, .string ⟨#[]⟩, .string ⟨#[]⟩, .string ⟨#[]⟩, .string ⟨#[]⟩, .string ⟨#[]⟩, .int .i64 0, .int .i64 0] 33) = W0 := ⟨_, rfl⟩
  have hq0 : Q w W0 := by rw [← hW0]; exact bt
  have P : Blk W0 w.heap.size [.int .i8 a, .int .i8 b, .int .i8 c, .int .i8 d, .int .i8 e, .int .i8 f] 28 := by rw [← hW0]; exact (Blk.new w _ _).alloc _
  have R : Blk W0 (w.heap.size + 1) [.int .i64 0, .int .i64 0, .int .i64 0, .string ⟨#[]⟩, .string ⟨#[]⟩, .string ⟨#[]⟩, .string ⟨#[]⟩, .string ⟨#[]⟩, .string ⟨#[]⟩, .int .i64 0, .int .i64 0] 33 := by rw [← hW0]; exact Blk.new1 w _ _ _
  rw [hW0]
  clear hW0
  have d0 := P.drew.cell 0
  have d1 := P.drew.cell 1
  have d2 := P.drew.cell 2
  have d3 := P.drew.cell 3
  have d4 := P.drew.cell 4
  have d5 := P.drew.cell 5
  simp only [List.getElem?_cons_zero, List.getElem?_cons_succ] at d0 d1 d2 d3 d4 d5
  have hqd : Q W0 W0.drew := Below.drew (Q.refl W0)
  refine wp_steadily 9 (by kernel_rfl) (by kernel_rfl) rfl ?_
  refine steadily_value (i := 0) (v := ?_) rfl rfl (by kernel_rfl) (by kernel_rfl) (fun _ _ _ h => h) (by rfl) ?_ ?_
  rotate_left
  ·(intro w' hq; go_simp; try with_reducible rfl)
  simp only [Act.put, List.setIfInBounds_toArray, List.set_cons_zero, List.set_cons_succ]
  refine steadily_value (i := 1) (v := ?_) rfl rfl (by kernel_rfl) (by kernel_rfl) (fun _ _ _ h => h) (by rfl) ?_ ?_
  rotate_left
  ·(intro w' hq; go_simp; try with_reducible rfl)
  simp only [Act.put, List.setIfInBounds_toArray, List.set_cons_zero, List.set_cons_succ]
  refine steadily_value (i := 2) (v := ?_) rfl rfl (by kernel_rfl) (by kernel_rfl) (fun _ _ _ h => h) (by rfl) ?_ ?_
  rotate_left
  ·(intro w' hq; have hc0 := qcell hq d0; have hc1 := qcell hq d1; have hc2 := qcell hq d2; go_simp; try with_reducible rfl)
  simp only [Act.put, List.setIfInBounds_toArray, List.set_cons_zero, List.set_cons_succ]
  refine steadily_call (i := 3) (v := _) rfl rfl (by kernel_rfl) (by kernel_rfl) (fun _ _ _ h => h) (by rfl) ?_ (fun w' hq => HA.out w' (hE.q (Q.trans hq0 (Q.trans hqd hq)))) ?_
  ·(intro w' hq; go_simp; try with_reducible rfl)
  simp only [Act.put, List.setIfInBounds_toArray, List.set_cons_zero, List.set_cons_succ]
  refine steadily_value (i := 4) (v := ?_) rfl rfl (by kernel_rfl) (by kernel_rfl) (fun _ _ _ h => h) (by rfl) ?_ ?_
  rotate_left
  ·(intro w' hq; go_simp; try with_reducible rfl)
  simp only [Act.put, List.setIfInBounds_toArray, List.set_cons_zero, List.set_cons_succ]
  refine steadily_value (i := 5) (v := ?_) rfl rfl (by kernel_rfl) (by kernel_rfl) (fun _ _ _ h => h) (by rfl) ?_ ?_
  rotate_left
  ·(intro w' hq; go_simp; try with_reducible rfl)
  simp only [Act.put, List.setIfInBounds_toArray, List.set_cons_zero, List.set_cons_succ]
  refine steadily_value (i := 6) (v := ?_) rfl rfl (by kernel_rfl) (by kernel_rfl) (fun _ _ _ h => h) (by rfl) ?_ ?_
  rotate_left
  ·(intro w' hq; have hc0 := qcell hq d3; have hc1 := qcell hq d4; have hc2 := qcell hq d5; go_simp; try with_reducible rfl)
  simp only [Act.put, List.setIfInBounds_toArray, List.set_cons_zero, List.set_cons_succ]
  refine steadily_call (i := 7) (v := _) rfl rfl (by kernel_rfl) (by kernel_rfl) (fun _ _ _ h => h) (by rfl) ?_ (fun w' hq => HB.out w' (hE.q (Q.trans hq0 (Q.trans hqd hq)))) ?_
  ·(intro w' hq; go_simp; try with_reducible rfl)
  simp only [Act.put, List.setIfInBounds_toArray, List.set_cons_zero, List.set_cons_succ]
  refine steadily_value (i := 8) (v := ?_) rfl rfl (by kernel_rfl) (by kernel_rfl) (fun _ _ _ h => h) (by rfl) ?_ ?_
  rotate_left
  ·(intro w' hq; go_simp; try with_reducible rfl)
  simp only [Act.put, List.setIfInBounds_toArray, List.set_cons_zero, List.set_cons_succ]
  refine steadily_done (by kernel_rfl) (fun w3 hq3 => ?_)
  simp only [List.drop_succ_cons, List.drop_zero]
  have hqq : Q W0 w3 := Q.trans hqd hq3
  have hQ3 : Q w w3 := Q.trans hq0 hqq
  replace R := R.keep hqq R.lt
  have lR := R.lt
  have r0 := R.cell 0
  have f0 := R.frozen 0
  have r1 := R.cell 1
  have f1 := R.frozen 1
  have r2 := R.cell 2
  have f2 := R.frozen 2
  have r3 := R.cell 3
  have f3 := R.frozen 3
  have r4 := R.cell 4
  have f4 := R.frozen 4
  have r5 := R.cell 5
  have f5 := R.frozen 5
  have r6 := R.cell 6
  have f6 := R.frozen 6
  have r7 := R.cell 7
  have f7 := R.frozen 7
  have r8 := R.cell 8
  have f8 := R.frozen 8
  have r9 := R.cell 9
  have f9 := R.frozen 9
  have r10 := R.cell 10
  have f10 := R.frozen 10
  simp only [List.getElem?_cons_zero, List.getElem?_cons_succ] at r0 r1 r2 r3 r4 r5 r6 r7 r8 r9 r10
  clear P d0 d1 d2 d3 d4 d5
  go_wp2
  have R' := R.set11 (x0 := .int .i64 1) (x1 := .int .i64 0) (x2 := .int .i64 (-1)) (x3 := .string ⟨X.toArray⟩) (x4 := .string ⟨Y.toArray⟩) (x5 := .string ⟨Z.toArray⟩) (x6 := .string ⟨X'.toArray⟩) (x7 := .string ⟨Y'.toArray⟩) (x8 := .string ⟨Z'.toArray⟩) (x9 := .int .i64 60) (x10 := .int .i64 180)
  clear R r0 r1 r2 r3 r4 r5 r6 r7 r8 r9 r10 f0 f1 f2 f3 f4 f5 f6 f7 f8 f9 f10
  have hQ' := q_set11 hQ3 (show w.heap.size ≤ w.heap.size + 1 by omega) (x0 := .int .i64 1) (x1 := .int .i64 0) (x2 := .int .i64 (-1)) (x3 := .string ⟨X.toArray⟩) (x4 := .string ⟨Y.toArray⟩) (x5 := .string ⟨Z.toArray⟩) (x6 := .string ⟨X'.toArray⟩) (x7 := .string ⟨Y'.toArray⟩) (x8 := .string ⟨Z'.toArray⟩) (x9 := .int .i64 60) (x10 := .int .i64 180)
  obtain ⟨W9, hW9⟩ : ∃ W9, ((((((((((((w3.setCell ⟨w.heap.size + 1, 0, none⟩ (.int .i64 1)).setCell ⟨w.heap.size + 1, 1, none⟩ (.int .i64 0)).setCell ⟨w.heap.size + 1, 2, none⟩ (.int .i64 (-1))).setCell ⟨w.heap.size + 1, 3, none⟩ (.string ⟨X.toArray⟩)).setCell ⟨w.heap.size + 1, 4, none⟩ (.string ⟨Y.toArray⟩)).setCell ⟨w.heap.size + 1, 5, none⟩ (.string ⟨Z.toArray⟩)).setCell ⟨w.heap.size + 1, 6, none⟩ (.string ⟨X'.toArray⟩)).setCell ⟨w.heap.size + 1, 7, none⟩ (.string ⟨Y'.toArray⟩)).setCell ⟨w.heap.size + 1, 8, none⟩ (.string ⟨Z'.toArray⟩)).setCell ⟨w.heap.size + 1, 9, none⟩ (.int .i64 60)).setCell ⟨w.heap.size + 1, 10, none⟩ (.int .i64 180))) = W9 := ⟨_, rfl⟩
  rw [hW9] at R' hQ' ⊢
  clear hW9
  refine bodyPost_ret (v := .agg #[.int .i64 1, .int .i64 0, .int .i64 (-1), .string ⟨X.toArray⟩, .string ⟨Y.toArray⟩, .string ⟨Z.toArray⟩, .string ⟨X'.toArray⟩, .string ⟨Y'.toArray⟩, .string ⟨Z'.toArray⟩, .int .i64 60, .int .i64 180]) (ret_c11 Tryz.results5 _ _ (w.heap.size + 1) _ _ _ _ _ _ _ _ _ _ _ rfl (R'.cell 0) (R'.cell 1) (R'.cell 2) (R'.cell 3) (R'.cell 4) (R'.cell 5) (R'.cell 6) (R'.cell 7) (R'.cell 8) (R'.cell 9) (R'.cell 10)) rfl ⟨rfl, hQ'⟩
end Go.Proofs.YtedijdmenfcjlaaGreatDoor
