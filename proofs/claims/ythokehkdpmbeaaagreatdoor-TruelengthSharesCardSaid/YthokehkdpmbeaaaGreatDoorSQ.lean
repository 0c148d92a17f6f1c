/-
  CD CE CF SqM CG CH LSquares, one behind the other (what SD leaves).
-/
import Derived.Test.YthokehkdpmbeaaaGreatDoorSD

namespace Go.Proofs.YthokehkdpmbeaaaGreatDoor
open Go.RowKit Kp
open Go.Lib (decDigits)

theorem Normal_norm (l : Nat) (hl : NormL l) (hb : Bd 40 (l : Rat)) (w : World) (hE : Env w) :
    Calls Tryz.prog 111 #[.string ⟨(Lib.itoa (l : Int)).toArray⟩] w fun e w' => e = .returned (.tuple #[.string ⟨#[49]⟩, .string ⟨(Lib.itoa (l : Int)).toArray⟩, .int .i64 0]) ∧ Q w w' := by
  have h := root_Normal (l : Rat) (hb.root90 (by decide)) (by rw [Rat.num_natCast]; have := hl.1; omega) w hE
  rw [rstr_nat, Rat.num_natCast, Rat.den_natCast, Int.toNat_natCast, Nat.mul_one, hl.2] at h
  rw [show Rat.divInt ((1 : Nat) : Int) ((1 : Nat) : Int) = 1 by rfl, rstr_one] at h
  exact h

set_option maxRecDepth 100000 in
set_option maxHeartbeats 2000000 in
theorem surd_right_one (x : Rat) (l : Nat) (hx : rlim x = false) (hx0 : x ≠ 0) (k60 : longV x ≤ 60) (hl : NormL l) (hb : Bd 40 (l : Rat)) (hl1 : l = 1) (w : World) (hE : Env w) :
    Calls Tryz.prog 96 #[.agg #[.string ⟨(rstr x).toArray⟩, .string ⟨(Lib.itoa (l : Int)).toArray⟩]] w fun e w' => e = .returned (.int .i64 0) ∧ Q w w' := by
  have hlr : rlim (l : Rat) = false := hb.rlim (by decide)
  have k40 : longV (l : Rat) ≤ 40 := longV_bd hb (by decide)
  have HC1 := Lib.hid (fun w hw => rational_Check_num x hx w hw)
  have hc2 := fun w hw => rational_Check_num (l : Rat) hlr w hw
  have HL1 := Lib.hid (fun w hw => surd_longest_g x hx w hw)
  have hl2 := fun w hw => surd_longest_g (l : Rat) hlr w hw
  rw [rstr_nat] at hc2 hl2
  have HC2 := Lib.hid hc2
  have HL2 := Lib.hid hl2
  have HN := Lib.hid (fun w hw => Normal_norm l hl hb w hw)
  have hp := hl.1
  have hz : (rstr x == [48]) = false := by
    rw [beq_eq_false_iff_ne, ← rstr_zero]; exact fun h => hx0 (rstr_inj h)
  have hlz : (Lib.itoa (l : Int) == [48]) = false := by
    rw [beq_eq_false_iff_ne, ← itoa_zero]; exact fun h => by have := itoa_inj h; omega
  have hlo : (Lib.itoa (l : Int) == [49]) = true := by
    subst hl1; rw [show ((1 : Nat) : Int) = 1 from rfl, itoa_one]; rfl
  have hm : decide ((Lib.itoa (l : Int)).head? = some 45) = false := by
    rw [itoa_nonneg (by omega), decide_eq_false_iff_not]; exact decDigits_head_ne_minus _
  have hs : hasSlash (Lib.itoa (l : Int)) = false := hasSlash_whole _
  have hlen : (Lib.itoa (l : Int)).length ≤ 301 := itoa_len _ (by have := (rlim_parts hlr).1; rwa [Rat.num_natCast] at this)
  have HH := Lib.hid (fun w => lib_HasMinus (Lib.itoa (l : Int)) w)
  have HS := Lib.hid (fun w hw => lib_ContainsSlash (Lib.itoa (l : Int)) (by omega) w hw)
  rw [hm] at HH
  have n1 := longV_nonneg x
  have n2 := longV_nonneg (l : Rat)
  clear hc2 hl2 hx hx0 hl hb hlr hl1 hm
  generalize longV x = v1 at *
  generalize longV (l : Rat) = v2 at *
  generalize rstr x = X at *
  generalize Lib.itoa (l : Int) = L at *
  go_enter Tryz.func96, Tryz.ntmps96
  go_wp2_with fail
  have B0 := Blk.new w [.string ⟨X.toArray⟩, .string ⟨L.toArray⟩] 59
  have hQ0 : Q w (w.alloc (.cells [.string ⟨X.toArray⟩, .string ⟨L.toArray⟩].toArray 59)) := (Below.refl _ w).alloc (Nat.le_refl _) _
  refine (HC1.out _ (hE.q hQ0)).mono ?_
  rintro e w1 ⟨rfl, hq1⟩
  have hQ1 := Q.trans hQ0 hq1
  have B1 := B0.keep hq1 B0.lt
  have c0 := B1.cell 0
  have c1 := B1.cell 1
  simp only [List.getElem?_cons_zero, List.getElem?_cons_succ] at c0 c1
  go_wp2_with fail
  clear c0 c1
  refine (HC2.out _ (hE.q hQ1)).mono ?_
  rintro e w2 ⟨rfl, hq2⟩
  have hQ2 := Q.trans hQ1 hq2
  have B2 := B1.keep hq2 B1.lt
  have c0 := B2.cell 0
  have c1 := B2.cell 1
  simp only [List.getElem?_cons_zero, List.getElem?_cons_succ] at c0 c1
  go_wp2_with fail
  clear c0 c1
  refine (HL1.out _ (hE.q hQ2)).mono ?_
  rintro e w3 ⟨rfl, hq3⟩
  have hQ3 := Q.trans hQ2 hq3
  have B3 := B2.keep hq3 B2.lt
  have c0 := B3.cell 0
  have c1 := B3.cell 1
  simp only [List.getElem?_cons_zero, List.getElem?_cons_succ] at c0 c1
  go_wp2_with fail
  clear c0 c1
  refine (HL2.out _ (hE.q hQ3)).mono ?_
  rintro e w4 ⟨rfl, hq4⟩
  have hQ4 := Q.trans hQ3 hq4
  have B4 := B3.keep hq4 B3.lt
  have c0 := B4.cell 0
  have c1 := B4.cell 1
  simp only [List.getElem?_cons_zero, List.getElem?_cons_succ] at c0 c1
  go_wp2
  go_ret
  exact ⟨rfl, hQ4⟩

set_option maxRecDepth 100000 in
set_option maxHeartbeats 2000000 in
theorem surd_right_other (x : Rat) (l : Nat) (hx : rlim x = false) (hx0 : x ≠ 0) (k60 : longV x ≤ 60) (hl : NormL l) (hb : Bd 40 (l : Rat)) (hl1 : l ≠ 1) (w : World) (hE : Env w) :
    Calls Tryz.prog 96 #[.agg #[.string ⟨(rstr x).toArray⟩, .string ⟨(Lib.itoa (l : Int)).toArray⟩]] w fun e w' => e = .returned (.int .i64 0) ∧ Q w w' := by
  have hlr : rlim (l : Rat) = false := hb.rlim (by decide)
  have k40 : longV (l : Rat) ≤ 40 := longV_bd hb (by decide)
  have HC1 := Lib.hid (fun w hw => rational_Check_num x hx w hw)
  have hc2 := fun w hw => rational_Check_num (l : Rat) hlr w hw
  have HL1 := Lib.hid (fun w hw => surd_longest_g x hx w hw)
  have hl2 := fun w hw => surd_longest_g (l : Rat) hlr w hw
  rw [rstr_nat] at hc2 hl2
  have HC2 := Lib.hid hc2
  have HL2 := Lib.hid hl2
  have HN := Lib.hid (fun w hw => Normal_norm l hl hb w hw)
  have hp := hl.1
  have hz : (rstr x == [48]) = false := by
    rw [beq_eq_false_iff_ne, ← rstr_zero]; exact fun h => hx0 (rstr_inj h)
  have hlz : (Lib.itoa (l : Int) == [48]) = false := by
    rw [beq_eq_false_iff_ne, ← itoa_zero]; exact fun h => by have := itoa_inj h; omega
  have hlo : (Lib.itoa (l : Int) == [49]) = false := by
    rw [beq_eq_false_iff_ne, ← itoa_one]; exact fun h => by have := itoa_inj h; omega
  have hm : decide ((Lib.itoa (l : Int)).head? = some 45) = false := by
    rw [itoa_nonneg (by omega), decide_eq_false_iff_not]; exact decDigits_head_ne_minus _
  have hs : hasSlash (Lib.itoa (l : Int)) = false := hasSlash_whole _
  have hlen : (Lib.itoa (l : Int)).length ≤ 301 := itoa_len _ (by have := (rlim_parts hlr).1; rwa [Rat.num_natCast] at this)
  have HH := Lib.hid (fun w => lib_HasMinus (Lib.itoa (l : Int)) w)
  have HS := Lib.hid (fun w hw => lib_ContainsSlash (Lib.itoa (l : Int)) (by omega) w hw)
  rw [hm] at HH
  have n1 := longV_nonneg x
  have n2 := longV_nonneg (l : Rat)
  clear hc2 hl2 hx hx0 hl hb hlr hl1 hm
  generalize longV x = v1 at *
  generalize longV (l : Rat) = v2 at *
  generalize rstr x = X at *
  generalize Lib.itoa (l : Int) = L at *
  go_enter Tryz.func96, Tryz.ntmps96
  go_wp2_with fail
  have B0 := Blk.new w [.string ⟨X.toArray⟩, .string ⟨L.toArray⟩] 59
  have hQ0 : Q w (w.alloc (.cells [.string ⟨X.toArray⟩, .string ⟨L.toArray⟩].toArray 59)) := (Below.refl _ w).alloc (Nat.le_refl _) _
  refine (HC1.out _ (hE.q hQ0)).mono ?_
  rintro e w1 ⟨rfl, hq1⟩
  have hQ1 := Q.trans hQ0 hq1
  have B1 := B0.keep hq1 B0.lt
  have c0 := B1.cell 0
  have c1 := B1.cell 1
  simp only [List.getElem?_cons_zero, List.getElem?_cons_succ] at c0 c1
  go_wp2_with fail
  clear c0 c1
  refine (HC2.out _ (hE.q hQ1)).mono ?_
  rintro e w2 ⟨rfl, hq2⟩
  have hQ2 := Q.trans hQ1 hq2
  have B2 := B1.keep hq2 B1.lt
  have c0 := B2.cell 0
  have c1 := B2.cell 1
  simp only [List.getElem?_cons_zero, List.getElem?_cons_succ] at c0 c1
  go_wp2_with fail
  clear c0 c1
  refine (HL1.out _ (hE.q hQ2)).mono ?_
  rintro e w3 ⟨rfl, hq3⟩
  have hQ3 := Q.trans hQ2 hq3
  have B3 := B2.keep hq3 B2.lt
  have c0 := B3.cell 0
  have c1 := B3.cell 1
  simp only [List.getElem?_cons_zero, List.getElem?_cons_succ] at c0 c1
  go_wp2_with fail
  clear c0 c1
  refine (HL2.out _ (hE.q hQ3)).mono ?_
  rintro e w4 ⟨rfl, hq4⟩
  have hQ4 := Q.trans hQ3 hq4
  have B4 := B3.keep hq4 B3.lt
  have c0 := B4.cell 0
  have c1 := B4.cell 1
  simp only [List.getElem?_cons_zero, List.getElem?_cons_succ] at c0 c1
  go_wp2_with fail
  refine (HH.out _).mono ?_
  rintro e w5 ⟨rfl, rfl⟩
  go_wp2_with fail
  refine (HS.out _ (hE.q hQ4)).mono ?_
  rintro e w5 ⟨rfl, rfl⟩
  rw [hs]
  clear c0 hs
  go_wp2_with fail
  clear c1
  refine (HN.out _ (hE.q hQ4)).mono ?_
  rintro e w5 ⟨rfl, hq5⟩
  have hQ5 := Q.trans hQ4 hq5
  have B5 := B4.keep hq5 B4.lt
  have c0 := B5.cell 0
  have c1 := B5.cell 1
  simp only [List.getElem?_cons_zero, List.getElem?_cons_succ] at c0 c1
  go_wp2
  go_ret
  exact ⟨rfl, hQ5⟩

/-- right: a term in normal form is right. -/
theorem surd_right_g (x : Rat) (l : Nat) (hx : rlim x = false) (hx0 : x ≠ 0) (k60 : longV x ≤ 60) (hl : NormL l) (hb : Bd 40 (l : Rat)) (w : World) (hE : Env w) :
    Calls Tryz.prog 96 #[.agg #[.string ⟨(rstr x).toArray⟩, .string ⟨(Lib.itoa (l : Int)).toArray⟩]] w fun e w' => e = .returned (.int .i64 0) ∧ Q w w' := by
  by_cases h1 : l = 1
  · exact surd_right_one x l hx hx0 k60 hl hb h1 w hE
  · exact surd_right_other x l hx hx0 k60 hl hb h1 w hE

end Go.Proofs.YthokehkdpmbeaaaGreatDoor

namespace Go.Proofs.YthokehkdpmbeaaaGreatDoor
open Go.RowKit Kp
open Go.Lib (decDigits)

/-- A surd of one term in normal form lies in memory. -/
def Surd1 (w : World) (B : Nat) (v : Value) (x : Rat) (l : Nat) : Prop :=
  w.ownsRow B 59 2 v 1 [.string ⟨(rstr x).toArray⟩, .string ⟨(Lib.itoa (l : Int)).toArray⟩]
/-- Its numbers are within the limits. -/
structure Term1 (x : Rat) (l : Nat) : Prop where
  lim : rlim x = false
  ne : x ≠ 0
  c60 : longV x ≤ 60
  norm : NormL l
  c40 : Bd 40 (l : Rat)

set_option maxRecDepth 100000 in
set_option maxHeartbeats 1000000 in
theorem surd_Check_one (x : Rat) (l : Nat) (ht : Term1 x l) (B : Nat) (v : Value) (w : World) (hE : Env w) (hv : Surd1 w B v x l) :
    Calls Tryz.prog 53 #[v] w fun e w' => e = .returned (.int .i64 0) ∧ Q w w' := by
  have HR := Lib.hid (fun w hw => surd_right_g x l ht.lim ht.ne ht.c60 ht.norm ht.c40 w hw)
  unfold Surd1 at hv
  generalize rstr x = X at *
  generalize Lib.itoa (l : Int) = L at *
  clear ht
  obtain ⟨g, cap, rfl, hg1, hg2⟩ := hv.form (by omega)
  go_enter Tryz.func53, Tryz.ntmps53
  go_wp2
  go_loopw [13] (fun i wr => ∃ k : Nat, k ≤ 1 ∧ i = .int .i64 k ∧ Q w wr) (fun i _ => 1 - (intOf i).toNat)
  case atStart => exact ⟨0, by omega, rfl, Q.refl _⟩
  case round =>
    obtain ⟨k, hk, rfl, hQ⟩ := hrel
    rcases (show k = 0 ∨ k = 1 by omega) with rfl | rfl
    · have hrow := ownsRow_keep hv hQ
      have e0 := hrow.cellAt 0 (by omega)
      have e1 := hrow.cellAt 1 (by omega)
      simp only [List.getElem?_cons_zero, List.getElem?_cons_succ] at e0 e1
      go_wp2_with fail
      refine (HR.out _ (hE.q (hQ.alloc hQ.size _))).mono ?_
      rintro e w1 ⟨rfl, hq1⟩
      have hQ1 := Q.trans (hQ.alloc hQ.size _) hq1
      clear e0 e1
      go_wp2
      go_roundw
      case rel => exact ⟨1, by omega, by go_num, hQ1⟩
      case measure => simp [intOf]
    · go_wp2
      go_ret
      exact ⟨rfl, hQ⟩

set_option maxHeartbeats 1000000 in
theorem surd_both_one (x y : Rat) (l m : Nat) (hx : Term1 x l) (hy : Term1 y m) (B1 B2 : Nat) (v1 v2 : Value) (w : World) (hE : Env w) (h1 : Surd1 w B1 v1 x l) (h2 : Surd1 w B2 v2 y m) :
    Calls Tryz.prog 57 #[v1, v2] w fun e w' => e = .returned (.bool true) ∧ Q w w' := by
  have HC1 := Lib.hid (surd_Check_one x l hx B1 v1 w hE h1)
  have HC2 := Lib.hid (fun w' (hq : Q w w') => surd_Check_one y m hy B2 v2 w' (hE.q hq) (ownsRow_keep h2 hq))
  unfold Surd1 at h1 h2
  obtain ⟨g1, c1, rfl, -, -⟩ := h1.form (by omega)
  obtain ⟨g2, c2, rfl, -, -⟩ := h2.form (by omega)
  clear hx hy h1 h2
  go_enter Tryz.func57, Tryz.ntmps57
  go_wp2_with fail
  refine HC1.out.mono ?_
  rintro e w1 ⟨rfl, hq1⟩
  go_wp2_with fail
  refine (HC2.out _ hq1).mono ?_
  rintro e w2 ⟨rfl, hq2⟩
  have hQ2 := Q.trans hq1 hq2
  go_wp2
  go_ret
  exact ⟨rfl, hQ2⟩

set_option maxHeartbeats 1000000 in
/-- Value of a surd that is a rational number. -/
theorem surd_Value_one (x : Rat) (hx : Term1 x 1) (B : Nat) (v : Value) (w : World) (hE : Env w) (hv : Surd1 w B v x 1) :
    Calls Tryz.prog 72 #[v] w fun e w' => e = .returned (.tuple #[.string ⟨(rstr x).toArray⟩, .bool true, .int .i64 0]) ∧ Q w w' := by
  have HC := Lib.hid (surd_Check_one x 1 hx B v w hE hv)
  unfold Surd1 at hv
  rw [show ((1 : Nat) : Int) = 1 from rfl, itoa_one] at hv
  obtain ⟨g, cap, rfl, hg1, hg2⟩ := hv.form (by omega)
  generalize rstr x = X at *
  clear hx
  go_enter Tryz.func72, Tryz.ntmps72
  go_wp2_with fail
  refine HC.out.mono ?_
  rintro e w1 ⟨rfl, hq1⟩
  have hrow := ownsRow_keep hv hq1
  have e0 := hrow.cellAt 0 (by omega)
  have e1 := hrow.cellAt 1 (by omega)
  simp only [List.getElem?_cons_zero, List.getElem?_cons_succ] at e0 e1
  go_wp2
  go_ret3
  exact ⟨rfl, hq1⟩

end Go.Proofs.YthokehkdpmbeaaaGreatDoor

namespace Go.Proofs.YthokehkdpmbeaaaGreatDoor
open Go.RowKit Kp
open Go.Lib (decDigits)

set_option maxRecDepth 100000 in
set_option maxHeartbeats 2000000 in
theorem surd_Mul_one {a b : Nat} (x y : Rat) (l m : Nat) (hx : Term1 x l) (hy : Term1 y m) (ba : Bd a x) (bb : Bd b y) (hab : a + b ≤ 200) (bl : Bd 21 (l : Rat)) (bm : Bd 21 (m : Rat)) (B1 B2 : Nat) (v1 v2 : Value) (w : World) (hE : Env w) (h1 : Surd1 w B1 v1 x l) (h2 : Surd1 w B2 v2 y m) :
    Calls Tryz.prog 71 #[v1, v2] w (MakeEnd w (x * y * aOf ((l : Rat) * (m : Rat))) (lOf ((l : Rat) * (m : Rat)))) := by
  have HB := Lib.hid (surd_both_one x y l m hx hy B1 B2 v1 v2 w hE h1 h2)
  have HM1 := Lib.hid (fun w hw => rational_Mul_bd x y ba bb (by omega) w hw)
  have hm2 := fun w hw => rational_Mul_bd (l : Rat) (m : Rat) bl bm (by decide) w hw
  have hne : x * y ≠ 0 := fun e => by
    rcases Rat.mul_eq_zero.1 e with h | h
    · exact hx.ne h
    · exact hy.ne h
  have hpos : 0 < ((l : Rat) * (m : Rat)).num := by
    rw [← Rat.natCast_mul, Rat.num_natCast]
    have := Nat.mul_pos hx.norm.1 hy.norm.1
    omega
  have HMK := Lib.hid (fun (rest : List Value) (cap b : Nat) t w hw hb => surd_Make_root (rest := rest) (cap := cap) (x * y) ((l : Rat) * (m : Rat)) (ba.mul bb) (by omega) hne (bl.mul bm) hpos b t w hw hb)
  unfold Surd1 at h1 h2
  rw [rstr_nat, rstr_nat] at hm2
  have HM2 := Lib.hid hm2
  clear hm2 hx hy ba bb bl bm hne hpos
  generalize x * y * aOf ((l : Rat) * (m : Rat)) = X at *
  generalize lOf ((l : Rat) * (m : Rat)) = Y at *
  generalize rstr (x * y) = P at *
  generalize rstr ((l : Rat) * (m : Rat)) = R at *
  generalize rstr x = sx at *
  generalize rstr y = sy at *
  generalize Lib.itoa (l : Int) = sl at *
  generalize Lib.itoa (m : Int) = sm at *
  obtain ⟨g1, c1, rfl, k1, k2⟩ := h1.form (by omega)
  obtain ⟨g2, c2, rfl, k3, k4⟩ := h2.form (by omega)
  obtain ⟨i0, hi, hz0, hz1, hz2⟩ := info_of infoTerm
  have HI := Lib.hid hi
  have HZ := Lib.hid hz0
  have HS := Lib.hid hz1
  have HBy := Lib.hid hz2
  clear hi hz0 hz1 hz2
  go_enter Tryz.func71, Tryz.ntmps71
  go_wp2_with fail
  refine HB.out.mono ?_
  rintro e w1 ⟨rfl, hq1⟩
  clear HB
  go_wp2
  go_loopw [6, 20] (fun o i wr => Q w wr ∧ ((o = .slice none 0 0 ∧ i = .int .i64 0) ∨ (i = .int .i64 1 ∧ wr.ownsRow w.heap.size 59 2 o 1 [.string ⟨P.toArray⟩, .string ⟨R.toArray⟩]))) (fun _ i _ => 1 - (intOf i).toNat)
  case atStart => exact ⟨hq1, .inl ⟨rfl, rfl⟩⟩
  case round =>
    obtain ⟨hQ, ⟨rfl, rfl⟩ | ⟨rfl, hout⟩⟩ := hrel
    · have hrow := ownsRow_keep h1 hQ
      have e0 := hrow.cellAt 0 (by omega)
      have e1 := hrow.cellAt 1 (by omega)
      simp only [List.getElem?_cons_zero, List.getElem?_cons_succ] at e0 e1
      have T8 := Blk.new wr [.string ⟨sx.toArray⟩, .string ⟨sl.toArray⟩] 59
      have hQa : Q wr (wr.alloc (.cells [.string ⟨sx.toArray⟩, .string ⟨sl.toArray⟩].toArray 59)) := (Below.refl _ wr).alloc (Nat.le_refl _) _
      go_wp2
      go_loopw [6, 26] (fun o i wr2 => Q (wr.alloc (.cells [.string ⟨sx.toArray⟩, .string ⟨sl.toArray⟩].toArray 59)) wr2 ∧ ((o = .slice none 0 0 ∧ i = .int .i64 0) ∨ (i = .int .i64 1 ∧ wr2.ownsRow w.heap.size 59 2 o 1 [.string ⟨P.toArray⟩, .string ⟨R.toArray⟩]))) (fun _ i _ => 1 - (intOf i).toNat)
      case atStart => exact ⟨Q.refl _, .inl ⟨rfl, rfl⟩⟩
      case round =>
        clear e0 e1
        obtain ⟨hQ2, ⟨rfl, rfl⟩ | ⟨rfl, hout⟩⟩ := hrel
        · have hQ3 := Q.trans hQ (Q.trans hQa hQ2)
          have t8 := T8.keep hQ2 T8.lt
          have row2 := ownsRow_keep h2 hQ3
          have f0 := row2.cellAt 0 (by omega)
          have f1 := row2.cellAt 1 (by omega)
          have b0 := t8.cell 0
          have b1 := t8.cell 1
          have lt8 := t8.lt
          simp only [List.getElem?_cons_zero, List.getElem?_cons_succ] at f0 f1 b0 b1
          have hq0 := hQ3.alloc hQ3.size (Obj.cells [.string ⟨sy.toArray⟩, .string ⟨sm.toArray⟩].toArray 59)
          have T10 := Blk.new wr [.string ⟨sy.toArray⟩, .string ⟨sm.toArray⟩] 59
          go_wp2_with fail
          refine (HM1.out _ (hE.q hq0)).mono ?_
          rintro e w3 ⟨rfl, hq3⟩
          have hQ4 := Q.trans hq0 hq3
          have u8 := (t8.alloc (Obj.cells [.string ⟨sy.toArray⟩, .string ⟨sm.toArray⟩].toArray 59)).keep hq3 (by simp; omega)
          have u10 := T10.keep hq3 (by simp)
          have p0 := u8.cell 1
          have p1 := u10.cell 1
          simp only [List.getElem?_cons_zero, List.getElem?_cons_succ] at p0 p1
          clear f0 f1 b0 b1 hq0 T10
          go_wp2_with fail
          refine (HM2.out _ (hE.q hQ4)).mono ?_
          rintro e w4 ⟨rfl, hq4⟩
          have hQ5 := Q.trans hQ4 hq4
          have hnew := Blk.new w4 [.string ⟨P.toArray⟩, .string ⟨R.toArray⟩] 59
          have hsz3 : w.heap.size ≤ w4.heap.size := hQ5.size
          have hZ := Q.trans hQ2 (Q.trans ((Below.refl _ wr).alloc (Nat.le_refl _) (Obj.cells [.string ⟨sy.toArray⟩, .string ⟨sm.toArray⟩].toArray 59)) (Q.trans hq3 hq4))
          clear p0 p1 HM1 HM2
          go_wp2_with (at_builtin; refine wpList_append_lies _ (by rfl) (.tmp 52) (.tmp 56) 39 (by rfl) w.heap.size 59 i0 _ 2 32 Tryz.underlying39 HI.out HZ.out HS.out HBy.out rfl (by decide) (.slice none 0 0) 0 [] (by rfl) (World.ownsRow_nil _ _ _ _) ⟨w4.heap.size, 0, none⟩ 1 1 [.string ⟨P.toArray⟩, .string ⟨R.toArray⟩] (by rfl) (by rfl) (World.news_of_block (cs := #[.string ⟨P.toArray⟩, .string ⟨R.toArray⟩]) (t := 59) (fr := (0, 0)) hnew) (by simp [Value.oneCell']) (by decide) (by decide) (by decide) (by simp; omega) (w4.heap.size + 1) (by simp) ?_; intro g4 cap4 w5 hown4 hgrow4 hat4 hlt4)
          go_roundw
          case rel =>
            exact ⟨(hZ.alloc hZ.size _).grown hgrow4 (by have := hZ.size; simp at this ⊢; omega) (by simp [Value.ownBlock]), .inr ⟨rfl, hown4⟩⟩
          case measure => simp [intOf]
        · have hQ3 := Q.trans hQ (Q.trans hQa hQ2)
          go_wp2
          go_roundw
          case rel => exact ⟨hQ3, .inr ⟨rfl, hout⟩⟩
          case measure => simp [intOf]
    · obtain ⟨g', cap', rest, rfl, q1, hbk⟩ := row_blk hout
      have HE := Lib.hid (HMK.out rest cap' g' 59 _ (hE.q hQ) hbk)
      go_wp2_with fail
      refine HE.out.mono ?_
      rintro e w4 hend
      replace hend := hend.base hQ
      have HEND := Lib.hid hend
      obtain ⟨hQ4, ⟨a1, a2, v, rfl, hown⟩ | ⟨a1, rfl⟩⟩ := hend
      · clear a1 a2 hown
        go_wp2
        go_ret2
        exact HEND.out
      · clear a1
        go_wp2
        go_ret2
        exact HEND.out

end Go.Proofs.YthokehkdpmbeaaaGreatDoor

namespace Kp

theorem dvd_of_sq {c r l : Nat} (hc : 0 < c) (h : c * c * l = r * r) : ∃ t, r = c * t ∧ l = t * t := by
  have h1 : c * c ∣ r * r := ⟨l, h.symm⟩
  have h2 : c ∣ r := by
    have := (Nat.pow_dvd_pow_iff (a := c) (b := r) (n := 2) (by decide)).1 (by rw [Nat.pow_two, Nat.pow_two]; exact h1)
    exact this
  obtain ⟨t, ht⟩ := h2
  refine ⟨t, ht, ?_⟩
  have h3 : c * c * l = c * c * (t * t) := by rw [h, ht]; grind
  exact Nat.eq_of_mul_eq_mul_left (Nat.mul_pos hc hc) h3
/-- The root of a square is rational. -/
theorem normM_sq {r : Nat} (hr : 0 < r) : normM (r * r) = (r, 1) := by
  obtain ⟨a, b, d, f⟩ := stripAll_spec primesL primesL_ge 1 (r * r) (Nat.mul_pos hr hr) (by decide)
  unfold normM
  generalize (stripAll primesL (1, r * r)).1 = c at *
  generalize (stripAll primesL (1, r * r)).2 = l at *
  obtain ⟨t, ht, hl⟩ := dvd_of_sq (r := r) b (by rw [d]; simp)
  have hi : isqrt l = t := isqrt_of ⟨by omega, by rw [hl]; exact Nat.mul_lt_mul_of_lt_of_lt (by omega) (by omega)⟩
  rw [hi, if_pos hl.symm, ← ht]

end Kp
namespace Go.Proofs.YthokehkdpmbeaaaGreatDoor
open Kp

theorem aOf_sq {l : Nat} (hl : 0 < l) : aOf ((l : Rat) * (l : Rat)) = l ∧ lOf ((l : Rat) * (l : Rat)) = 1 := by
  rw [← Rat.natCast_mul]
  unfold aOf lOf
  rw [Rat.num_natCast, Rat.den_natCast, Int.toNat_natCast, Nat.mul_one, normM_sq hl]
  have h := Rat.num_divInt_den (l : Rat)
  rw [Rat.num_natCast, Rat.den_natCast] at h
  exact ⟨h, rfl⟩

/-- The parts of 1 / s. -/
theorem inv_parts (s : Rat) (hs : 0 < s.num) : (1 / s).num = s.den ∧ (1 / s).den = s.num.toNat := by
  rw [inv_is s hs]
  obtain ⟨e1, e2⟩ := divInt_pos (s.den : Int) s.num.toNat (by omega)
  have hg : Nat.gcd (s.den : Int).natAbs s.num.toNat = 1 := by
    have h := s.reduced
    rw [Int.natAbs_natCast, Nat.gcd_comm, show s.num.toNat = s.num.natAbs by omega]; exact h
  rw [hg] at e1 e2
  refine ⟨by rw [e1]; simp, ?_⟩
  have : ((Rat.divInt (s.den : Int) (s.num.toNat : Int)).den : Int) = (s.num.toNat : Int) := by rw [e2]; simp
  omega

theorem depth_facts (s : Rat) (hs : 0 < s.num) : ∃ C L N D : Rat, N ≠ 0 ∧ D ≠ 0 ∧ C * C * L = N * D ∧ s * D = N ∧ aOf s = C / D ∧ aOf (1 / s) = C / N ∧ (leftOf s : Rat) = L := by
  have hm : 0 < s.num.toNat * s.den := Nat.mul_pos (by omega) s.den_pos
  obtain ⟨h1, h2, h3, h4⟩ := normM_spec hm
  have hd := s.den_nz
  have hD : (s.den : Rat) ≠ 0 := fun e => hd (by exact_mod_cast e)
  have hN : (s.num.toNat : Rat) ≠ 0 := fun e => by
    have : s.num.toNat = 0 := by exact_mod_cast e
    omega
  refine ⟨((normM (s.num.toNat * s.den)).1 : Rat), (leftOf s : Rat), (s.num.toNat : Rat), (s.den : Rat), hN, hD, ?_, ?_, ?_, ?_, rfl⟩
  · have := congrArg (Nat.cast (R := Rat)) h3
    unfold leftOf
    simpa [Rat.natCast_mul] using this
  · have h5 : (s.num : Rat) / ((s.den : Int) : Rat) = s := by rw [← Rat.divInt_eq_div]; exact Rat.num_divInt_den s
    rw [Rat.intCast_natCast] at h5
    have h6 : ((s.num.toNat : Nat) : Rat) = (s.num : Rat) := by
      rw [← Rat.intCast_natCast]; congr 1; omega
    rw [h6]
    grind
  · unfold aOf
    rw [Rat.divInt_eq_div, Rat.intCast_natCast, Rat.intCast_natCast]
  · unfold aOf
    rw [(inv_parts s hs).1, (inv_parts s hs).2, Int.toNat_natCast, Nat.mul_comm s.den, Rat.divInt_eq_div, Rat.intCast_natCast, Rat.intCast_natCast]

end Go.Proofs.YthokehkdpmbeaaaGreatDoor

namespace Go.Proofs.YthokehkdpmbeaaaGreatDoor
open Go.RowKit Kp
open Go.Lib (decDigits)

/-- Make's answer within the limits. -/
theorem MakeEnd.good {w : World} {x : Rat} {l : Nat} {e : Ending} {w' : World} (h : MakeEnd w x (l : Rat) e w') (ht : longV x ≤ 60) (hl : longV (l : Rat) ≤ 40) :
    Q w w' ∧ ∃ v, e = .returned (.tuple #[v, .int .i64 0]) ∧ Surd1 w' w.heap.size v x l := by
  obtain ⟨h1, ⟨_, _, v, hv, ho⟩ | ⟨h2, _⟩⟩ := h
  · refine ⟨h1, v, hv, ?_⟩
    unfold Surd1; rw [rstr_nat] at ho; exact ho
  · omega

end Go.Proofs.YthokehkdpmbeaaaGreatDoor

namespace Go.Proofs.YthokehkdpmbeaaaGreatDoor
open Go.RowKit Kp
open Go.Lib (decDigits)

theorem norm_one : NormL 1 := ⟨by decide, normM_one⟩
theorem nat_ne {l : Nat} (h : 0 < l) : (l : Rat) ≠ 0 := fun e => by
  have : l = 0 := by exact_mod_cast e
  omega
theorem prod_term {x y : Rat} {l : Nat} (hx : Term1 x l) (hy : Term1 y l) (bx : Bd 20 x) (bY : Bd 20 y) (bl : Bd 16 (l : Rat)) : Term1 (x * y * (l : Rat)) 1 ∧ Bd 56 (x * y * (l : Rat)) := by
  have b := (bx.mul bY).mul bl
  refine ⟨⟨b.rlim (by decide), fun e => ?_, by have := longV_bd b (by decide); omega, norm_one, (show Bd 40 ((1 : Nat) : Rat) from ⟨by decide, by decide⟩)⟩, b⟩
  rcases Rat.mul_eq_zero.1 e with h | h
  · rcases Rat.mul_eq_zero.1 h with h | h
    · exact hx.ne h
    · exact hy.ne h
  · exact nat_ne hx.norm.1 h

/-- The product of two depths is a rational number. -/
theorem surd_Mul_depth (x y : Rat) (l : Nat) (hx : Term1 x l) (hy : Term1 y l) (bx : Bd 20 x) (bY : Bd 20 y) (bl : Bd 16 (l : Rat)) (B1 B2 : Nat) (v1 v2 : Value) (w : World) (hE : Env w) (h1 : Surd1 w B1 v1 x l) (h2 : Surd1 w B2 v2 y l) :
    Calls Tryz.prog 71 #[v1, v2] w fun e w' => ∃ v, e = .returned (.tuple #[v, .int .i64 0]) ∧ Q w w' ∧ Surd1 w' w.heap.size v (x * y * (l : Rat)) 1 := by
  have h := surd_Mul_one x y l l hx hy bx bY (by decide) (bl.mono (by decide)) (bl.mono (by decide)) B1 B2 v1 v2 w hE h1 h2
  rw [(aOf_sq hx.norm.1).1, (aOf_sq hx.norm.1).2] at h
  refine h.mono ?_
  intro e w' he
  obtain ⟨ht, -⟩ := prod_term hx hy bx bY bl
  obtain ⟨hq, v, hv, hs⟩ := MakeEnd.good (l := 1) he ht.c60 (by have := longV_bd ht.c40 (by decide); omega)
  exact ⟨v, hv, hq, hs⟩

theorem surd1_keep {w w' : World} {B : Nat} {v : Value} {x : Rat} {l : Nat} (h : Surd1 w B v x l) (hq : Q w w') : Surd1 w' B v x l := ownsRow_keep h hq

end Go.Proofs.YthokehkdpmbeaaaGreatDoor

namespace Go.Proofs.YthokehkdpmbeaaaGreatDoor
open Go.RowKit Kp
open Go.Lib (decDigits)

theorem max_four (w : World) : (Builtin.max_ #[34, 34, 34, 34] 34 #[.int .i64 0, .int .i64 0, .int .i64 0, .int .i64 0]).run Tryz.prog w = .ok (.int .i64 0) w := by kernel_rfl

theorem u8_range {x : Int} (h : (Go.Lit.int .u8 x).wf = true) : 0 ≤ x ∧ x ≤ 255 := by
  have h2 : (decide (IntKind.min .u8 ≤ x) && decide (x ≤ IntKind.max .u8)) = true := h
  rw [show IntKind.min .u8 = 0 from rfl, show IntKind.max .u8 = 255 from rfl] at h2
  simpa using h2
end Go.Proofs.YthokehkdpmbeaaaGreatDoor
