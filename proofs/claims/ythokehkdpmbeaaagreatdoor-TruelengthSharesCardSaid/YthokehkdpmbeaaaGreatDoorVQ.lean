/-
  The law TruelengthSquares: its walk.
  Compare by the values; the law TruelengthRounds: its walk.
-/
import Derived.Test.YthokehkdpmbeaaaGreatDoorVL
namespace Go.Proofs.YthokehkdpmbeaaaGreatDoor
open Go.RowKit Kp
open Go.Lib (decDigits)

set_option maxHeartbeats 1000000 in
theorem surd_visit_nil (f : Value) (w : World) : Calls Tryz.prog 66 #[.slice none 0 0, f] w fun e w' => e = .returned (.int .i64 0) ∧ Q w w' := by
  go_enter Tryz.func66, Tryz.ntmps66
  go_wp2
  go_loopw [13] (fun i wr => i = .int .i64 0 ∧ wr = w) (fun _ _ => 0)
  case atStart => exact ⟨rfl, rfl⟩
  case round =>
    obtain ⟨rfl, rfl⟩ := hrel
    go_wp2
    go_ret
    exact ⟨rfl, bt⟩

set_option maxRecDepth 100000 in
set_option maxHeartbeats 1000000 in
theorem surd_Make_nil (w : World) : Calls Tryz.prog 25 #[.slice none 0 0] w fun e w' => e = .returned (.tuple #[.slice none 0 0, .int .i64 0]) ∧ Q w w' := by
  go_enter Tryz.func25, Tryz.ntmps25
  go_wp2
  go_loopw [18] (fun i wr => i = .int .i64 0 ∧ wr = w) (fun _ _ => 0)
  case atStart => exact ⟨rfl, rfl⟩
  case round =>
    obtain ⟨rfl, rfl⟩ := hrel
    go_wp2_with fail
    have hG := Blk.new wr [Value.slice none 0 0] 110
    refine (surd_visit_nil _ _).mono ?_
    rintro e w1 ⟨rfl, hq1⟩
    have hQ1 : Q wr w1 := Q.trans bt hq1
    replace hG := hG.keep hq1 hG.lt
    have g0 := hG.cell 0
    simp only [List.getElem?_cons_zero] at g0
    go_wp2_with fail
    go_loopw [10, 47] (fun o i wr2 => o = .slice none 0 0 ∧ i = .int .i64 0 ∧ wr2 = w1) (fun _ i _ => 1 - (intOf i).toNat)
    case atStart => exact ⟨rfl, rfl, rfl⟩
    case round =>
      obtain ⟨rfl, rfl, rfl⟩ := hrel
      go_wp2_with fail
      refine (sortFunc_zero _ _ _ _).mono ?_
      rintro e w2 ⟨⟨u, rfl⟩, rfl⟩
      go_wp2
      go_ret2
      exact ⟨rfl, hQ1⟩

set_option maxHeartbeats 1000000 in
theorem surd_both_nils (w : World) : Calls Tryz.prog 57 #[.slice none 0 0, .slice none 0 0] w fun e w' => e = .returned (.bool true) ∧ Q w w' := by
  have HN := Lib.hid (fun w => surd_Check_nil w)
  go_enter Tryz.func57, Tryz.ntmps57
  have hQ0 := Q.refl w
  go_wp2_with fail
  refine (HN.out _).mono ?_
  rintro e w1 ⟨rfl, hq1⟩
  have hs1 : Q w w1 := Q.trans bt hq1
  have hQ1 : Q w w1 := Q.trans hQ0 hs1
  go_wp2_with fail
  refine (HN.out _).mono ?_
  rintro e w2 ⟨rfl, hq2⟩
  have hs2 : Q w1 w2 := Q.trans bt hq2
  have hQ2 : Q w w2 := Q.trans hQ1 hs2
  go_wp2
  go_ret
  exact ⟨rfl, bt⟩

set_option maxHeartbeats 1000000 in
theorem surd_Mul_nil (w : World) : Calls Tryz.prog 71 #[.slice none 0 0, .slice none 0 0] w fun e w' => e = .returned (.tuple #[.slice none 0 0, .int .i64 0]) ∧ Q w w' := by
  have HM := Lib.hid (fun w => surd_Make_nil w)
  go_enter Tryz.func71, Tryz.ntmps71
  have hQ0 := Q.refl w
  go_wp2_with fail
  refine (surd_both_nils _).mono ?_
  rintro e w1 ⟨rfl, hq1⟩
  have hs1 : Q w w1 := Q.trans bt hq1
  have hQ1 : Q w w1 := Q.trans hQ0 hs1
  go_wp2
  go_loopw [6, 20] (fun o i wr => o = .slice none 0 0 ∧ i = .int .i64 0 ∧ wr = w1) (fun _ _ _ => 0)
  case atStart => exact ⟨rfl, rfl, rfl⟩
  case round =>
    obtain ⟨rfl, rfl, rfl⟩ := hrel
    go_wp2_with fail
    refine (HM.out _).mono ?_
    rintro e w2 ⟨rfl, hq2⟩
    have hQ2 : Q w w2 := Q.trans hQ1 hq2
    go_wp2
    go_ret2
    exact ⟨rfl, hQ2⟩

set_option maxHeartbeats 1000000 in
theorem surd_Value_nil (w : World) : Calls Tryz.prog 72 #[.slice none 0 0] w fun e w' => e = .returned (.tuple #[.string ⟨#[48]⟩, .bool true, .int .i64 0]) ∧ Q w w' := by
  have HN := Lib.hid (fun w => surd_Check_nil w)
  go_enter Tryz.func72, Tryz.ntmps72
  have hQ0 := Q.refl w
  go_wp2_with fail
  refine (HN.out _).mono ?_
  rintro e w1 ⟨rfl, hq1⟩
  have hs1 : Q w w1 := Q.trans bt hq1
  have hQ1 : Q w w1 := Q.trans hQ0 hs1
  go_wp2
  go_ret3
  exact ⟨rfl, bt⟩

/-- The square of a root is the number. -/
theorem root_sq (s : Rat) (hs : 0 < s.num) : aOf s * aOf s * (leftOf s : Rat) = s := by
  obtain ⟨C, L, N, D, hN, hD, h, hsd, e1, e2, e3⟩ := depth_facts s hs
  rw [e1, e3]
  have : s = N / D := by grind
  rw [this]
  grind

set_option maxRecDepth 100000 in
set_option maxHeartbeats 1000000 in
/-- The square of a length. -/
theorem law_square (s : Rat) (bs : Bd 6 s) (B : Nat) (v : Value) (w : World) (hE : Env w) (hv : LenAt w B v s) :
    Calls Tryz.prog 26 #[v] w fun e w' => e = .returned (.tuple #[.string ⟨(rstr s).toArray⟩, .bool true]) ∧ Q w w' := by
  rcases hv with ⟨rfl, rfl⟩ | ⟨hp, hv⟩
  · rw [rstr_zero]
    go_enter Tryz.func26, Tryz.ntmps26
    have hQ0 := Q.refl w
    go_wp2_with fail
    refine (surd_Mul_nil _).mono ?_
    rintro e w1 ⟨rfl, hq1⟩
    have hs1 : Q w w1 := Q.trans bt hq1
    have hQ1 : Q w w1 := Q.trans hQ0 hs1
    go_wp2_with fail
    refine (surd_Value_nil _).mono ?_
    rintro e w2 ⟨rfl, hq2⟩
    have hs2 : Q w1 w2 := Q.trans bt hq2
    have hQ2 : Q w w2 := Q.trans hQ1 hs2
    go_wp2
    go_ret2
    exact ⟨rfl, bt⟩
  · have ba := aOf_bd bs hp
    have bl : Bd 12 (leftOf s : Rat) := lOf_bd bs hp (by decide)
    have ht := term_of (bs.mono (by decide)) hp
    have HM := Lib.hid (surd_Mul_depth (aOf s) (aOf s) (leftOf s) ht ht (ba.mono (by decide)) (ba.mono (by decide)) (bl.mono (by decide)) B B v v w hE hv hv)
    obtain ⟨tt, -⟩ := prod_term ht ht (ba.mono (by decide)) (ba.mono (by decide)) (bl.mono (by decide))
    rw [root_sq s hp] at HM tt
    have HV := Lib.hid (fun B v w hw hv => surd_Value_one s tt B v w hw hv)
    obtain ⟨g1, c1, rfl, -, -⟩ := World.ownsRow.form hv (by omega)
    clear hv hp ba bl ht tt bs
    generalize rstr s = S at *
    go_enter Tryz.func26, Tryz.ntmps26
    go_wp2_with fail
    refine HM.out.mono ?_
    rintro e w1 ⟨v1, rfl, hq1, h1⟩
    have H1 := Lib.hid h1
    obtain ⟨g2, c2, rfl, -, -⟩ := World.ownsRow.form h1 (by omega)
    clear h1
    go_wp2_with fail
    refine (HV.out _ _ _ (hE.q hq1) H1.out).mono ?_
    rintro e w2 ⟨rfl, hq2⟩
    have hQ2 : Q w w2 := Q.trans hq1 hq2
    go_wp2
    go_ret2
    exact ⟨rfl, hQ2⟩

set_option maxHeartbeats 1000000 in
theorem surd_Sign_one (x : Rat) (l : Nat) (hx : Term1 x l) (px : 0 < x.num) (dx : x.den < 10 ^ 60) (bx : Bd 60 x) (bl : l < 10 ^ 40) (B : Nat) (v : Value) (w : World) (hE : Env w) (hv : Surd1 w B v x l) :
    Calls Tryz.prog 28 #[v] w fun e w' => e = .returned (.tuple #[.int .i64 1, .int .i64 0]) ∧ Q w w' := by
  have HC := Lib.hid (surd_Check_one x l hx B v w hE hv)
  have hsg := fun v w hw hp hsl => surd_sign [(x, l)] (fun t ht => by rw [List.mem_singleton] at ht; subst ht; exact ⟨bx, bl⟩) (by simp) v w hw hp hsl
  have hvv : signV [(x, l)] = .tuple #[.int .i64 1, .int .i64 0] := by unfold signV; rw [sign_one (by omega) hx.norm.1 dx, if_pos px]
  rw [hvv] at hsg
  have HSG := Lib.hid hsg
  have r1 : Hid (w.ownsRow B 59 2 v ([(x, l)].map ofC).length (rowS ([(x, l)].map ofC))) := Lib.hid hv
  obtain ⟨g1, c1, rfl, -, -⟩ := World.ownsRow.form hv (by omega)
  clear hx px dx bx bl hsg hvv hv
  go_enter Tryz.func28, Tryz.ntmps28
  go_wp2_with fail
  refine HC.out.mono ?_
  rintro e w1 ⟨rfl, hq1⟩
  go_wp2_with fail
  refine (HSG.out _ _ (hE.q hq1) ((hE.q hq1).places) (TSl.of_row (ownsRow_keep r1.out hq1))).mono ?_
  rintro e w2 ⟨rfl, hq2⟩
  have hQ2 : Q w w2 := Q.trans hq1 hq2
  go_wp2
  go_ret2
  exact ⟨rfl, hQ2⟩

theorem aOf_pos {n : Nat} {r : Rat} (hr : Bd n r) (hp : 0 < r.num) : 0 < (aOf r).num := by
  obtain ⟨h1, -⟩ := nd_lt hr hp
  exact divInt_num_pos (by have := (normM_spec h1).2.1; omega) r.den_pos

theorem sq_zero {a : Int} (h : a * a = 0) : a = 0 := by
  rcases Int.mul_eq_zero.1 h with h | h <;> exact h

theorem flat_sq (p : P3) : p.sq = p.flat.sq + p.z * p.z := by
  unfold P3.sq P3.flat
  grind

/-- The first difference. -/
theorem toX_cases (a b c d e f : Int) : (¬ (a = d ∧ b = e ∧ c = f) ∧ toX a b c d e f - a = d - a) ∨ ((a = d ∧ b = e ∧ c = f) ∧ a = 127 ∧ toX a b c d e f - a = -255) ∨ ((a = d ∧ b = e ∧ c = f) ∧ a ≠ 127 ∧ toX a b c d e f - a = 1) := by
  unfold toX
  by_cases h : a = d ∧ b = e ∧ c = f
  · rw [if_pos h]
    by_cases h7 : a = 127
    · rw [if_pos h7]; exact .inr (.inl ⟨h, h7, by omega⟩)
    · rw [if_neg h7]; exact .inr (.inr ⟨h, h7, by omega⟩)
  · rw [if_neg h]; exact .inl ⟨h, rfl⟩

/-- The ends of a small member lie apart. -/
theorem ends_pos {a b c d e f : Int} (en : Ends a b c d e f) : 0 < ((half d e f).sub (half a b c)).sq.num := by
  obtain ⟨ha, hb, hc, hd, he, hf, hne⟩ := en
  have esub := half_sub a b c d e f
  have h0 := Rat.num_nonneg.2 (P3.sq_nonneg ((half d e f).sub (half a b c)))
  have h1 : ((half d e f).sub (half a b c)).sq.num ≠ 0 := fun h => by
    have h2 := Rat.num_eq_zero.1 h
    rw [esub, half_sq] at h2
    have h3 := sq_le (a := d - a) (by have := ha.1; have := ha.2; have := hd.1; have := hd.2; omega)
    have h4' := sq_le (a := e - b) (by have := hb.1; have := hb.2; have := he.1; have := he.2; omega)
    have h4 := sq_le (a := f - c) (by have := hc.1; have := hc.2; have := hf.1; have := hf.2; omega)
    have h5 : (d - a) * (d - a) + (e - b) * (e - b) + (f - c) * (f - c) = 0 := by
      rw [Rat.divInt_eq_div, Rat.intCast_natCast, show ((4 : Nat) : Rat) = 4 from rfl] at h2
      have h6 : (((d - a) * (d - a) + (e - b) * (e - b) + (f - c) * (f - c) : Int) : Rat) = 0 := by grind
      exact_mod_cast h6
    have z1 : d - a = 0 := sq_zero (by omega)
    have z2 : e - b = 0 := sq_zero (by omega)
    have z3 : f - c = 0 := sq_zero (by omega)
    apply hne
    rw [show d = a by omega, show e = b by omega, show f = c by omega]
  omega

set_option maxRecDepth 100000 in
set_option maxHeartbeats 8000000 in
theorem squares32_law (a b c d e f : Int) (ha : I8 a) (hb : I8 b) (hc : I8 c) (hd : I8 d) (he : I8 e) (hf : I8 f) (w : World) (hE : Env w) :
    Calls Tryz.prog 6 #[.agg #[.int .i8 a, .int .i8 b, .int .i8 c, .int .i8 d, .int .i8 e, .int .i8 f]] w fun e' w' => e' = .returned (.bool true) ∧ Q w w' := by
  have HOF := Lib.hid (fun w hw => law_of a b c d e f ha hb hc hd he hf w hw)
  have en := ends_of ha hb hc hd he hf
  have b1 : B3 3 (half a b c) := half_b3 (by have := i8_abs ha; omega) (by have := i8_abs hb; omega) (by have := i8_abs hc; omega)
  have b2 : B3 3 (half (toX a b c d e f) e f) := half_b3 (by have := i8_abs en.hd; omega) (by have := i8_abs he; omega) (by have := i8_abs hf; omega)
  have esub := half_sub a b c (toX a b c d e f) e f
  have bsub : B3 3 ((half (toX a b c d e f) e f).sub (half a b c)) := by
    rw [esub]
    exact half_b3 (by have := i8_abs ha; have := i8_abs en.hd; omega) (by have := i8_abs hb; have := i8_abs he; omega) (by have := i8_abs hc; have := i8_abs hf; omega)
  have bsq : Bd 6 ((half (toX a b c d e f) e f).sub (half a b c)).sq := by
    rw [esub]
    exact half_sq_bd (by have := ha.1; have := ha.2; have := en.hd.1; have := en.hd.2; omega) (by have := hb.1; have := hb.2; have := he.1; have := he.2; omega) (by have := hc.1; have := hc.2; have := hf.1; have := hf.2; omega)
  have bfl : Bd 6 ((half (toX a b c d e f) e f).sub (half a b c)).flat.sq := by
    rw [esub, half_flat]
    exact half_sq_bd (by have := ha.1; have := ha.2; have := en.hd.1; have := en.hd.2; omega) (by have := hb.1; have := hb.2; have := he.1; have := he.2; omega) (by decide)
  have flb : ∀ {n : Nat} {v : P3}, 0 < n → B3 n v → B3 n v.flat := fun hn h => ⟨h.1, h.2.1, bd_zero hn⟩
  have hk : ∀ K : Int, K = (toX a b c d e f - a) * (toX a b c d e f - a) + (e - b) * (e - b) → Rat.divInt K ((4 : Nat) : Int) = ((half (toX a b c d e f) e f).sub (half a b c)).flat.sq := fun K hK => by
    rw [esub, half_flat, half_sq, hK, Int.mul_zero, Int.add_zero]
  have x1 := sq_le (a := toX a b c d e f - a) (by have := ha.1; have := ha.2; have := en.hd.1; have := en.hd.2; omega)
  have x2 := sq_le (a := e - b) (by have := hb.1; have := hb.2; have := he.1; have := he.2; omega)
  have x3 := sq_le (a := d - a) (by have := ha.1; have := ha.2; have := hd.1; have := hd.2; omega)
  have HN : Hid (∀ K : Int, K = (toX a b c d e f - a) * (toX a b c d e f - a) + (e - b) * (e - b) → ∀ w, Env w → Calls Tryz.prog 10 #[.int .i64 K, .int .i64 4] w fun e' w' => e' = .returned (.string ⟨(rstr ((half (toX a b c d e f) e f).sub (half a b c)).flat.sq).toArray⟩) ∧ Q w w') := Lib.hid (fun K hK w hw => by
    have h := law_num K 4 (by decide) (by omega) (by decide) w hw
    rw [hk K hK] at h
    exact h)
  have hcase := toX_cases a b c d e f
  have hne := en.ne
  have hpos := ends_pos en
  have hfs := flat_sq ((half (toX a b c d e f) e f).sub (half a b c))
  generalize half a b c = P at *
  generalize half (toX a b c d e f) e f = R at *
  have HL := Lib.hid (fun w hw => true_Length (m := 3) (by decide) 1 60 180 mok_law P R b1 b2 (by decide) hne w hw bsub (bsq.mono (by decide)))
  have HR := Lib.hid (fun w hw => true_Run (m := 3) (by decide) 1 60 180 mok_law P R b1 b2 (by decide) hne w hw (flb (by decide) bsub) (bfl.mono (by decide)))
  have HZ := Lib.hid (fun w hw => true_Rise 1 60 180 mok_law P R b1 b2 (by decide) hne w hw)
  have HQ1 := Lib.hid (fun B v w hw hv => law_square (R.sub P).sq bsq B v w hw hv)
  have HQ2 := Lib.hid (fun B v w hw hv => law_square (R.sub P).flat.sq bfl B v w hw hv)
  have HM := Lib.hid (fun w hw => rational_Mul_bd (R.z - P.z) (R.z - P.z) bsub.2.2 bsub.2.2 (by decide) w hw)
  have hadd := fun w hw => rational_Add_bd (R.sub P).flat.sq ((R.z - P.z) * (R.z - P.z)) bfl (bsub.2.2.mul bsub.2.2) (by decide) w hw
  rw [show (R.sub P).flat.sq + (R.z - P.z) * (R.z - P.z) = (R.sub P).sq from hfs.symm] at hadd
  have HA := Lib.hid hadd
  have ht := term_of (bsq.mono (by decide)) hpos
  have ba := aOf_bd bsq hpos
  have bl : Bd 12 (leftOf (R.sub P).sq : Rat) := lOf_bd bsq hpos (by decide)
  have hl40 : leftOf (R.sub P).sq < 10 ^ 40 := by
    have h := bl.1
    rw [Rat.num_natCast, Int.natAbs_natCast] at h
    exact Nat.lt_of_lt_of_le h (by decide)
  have pa : 0 < (aOf (R.sub P).sq).num := aOf_pos bsq hpos
  have hsg : ∀ B v w, Env w → LenAt w B v (R.sub P).sq → Calls Tryz.prog 28 #[v] w fun e w' => e = .returned (.tuple #[.int .i64 1, .int .i64 0]) ∧ Q w w' := fun B v w hw hv => by
    rcases hv with ⟨h, _⟩ | ⟨_, hv⟩
    · rw [h] at hpos; simp at hpos
    · exact surd_Sign_one _ _ ht pa (Nat.lt_of_lt_of_le ba.2 (by decide)) (ba.mono (by decide)) hl40 B v w hw hv
  have HSG := Lib.hid hsg
  have wa := Go.IntWalk.i64_in a (by have := ha.1; have := ha.2; omega)
  have wb := Go.IntWalk.i64_in b (by have := hb.1; have := hb.2; omega)
  have wd := Go.IntWalk.i64_in d (by have := hd.1; have := hd.2; omega)
  have we := Go.IntWalk.i64_in e (by have := he.1; have := he.2; omega)
  have wda := Go.IntWalk.i64_in (d - a) (by have := ha.1; have := ha.2; have := hd.1; have := hd.2; omega)
  have web := Go.IntWalk.i64_in (e - b) (by have := hb.1; have := hb.2; have := he.1; have := he.2; omega)
  clear ha hb hc hd he hf en b1 b2 esub bsub bsq bfl flb hk hne hpos hfs hadd ht ba bl hl40 pa hsg
  generalize (R.sub P).sq = s1 at *
  generalize (R.sub P).flat.sq = s2 at *
  unfold VM at *
  generalize rstr s1 = S1 at *
  generalize rstr s2 = S2 at *
  generalize rstr ((R.z - P.z) * (R.z - P.z)) = ZZ at *
  generalize rstr (R.z - P.z) = Zp at *
  generalize rstr P.x = X at *
  generalize rstr P.y = Y at *
  generalize rstr P.z = Z at *
  generalize rstr R.x = X' at *
  generalize rstr R.y = Y' at *
  generalize rstr R.z = Z' at *
  have hmax := max_three
  have hEq := eq_i8 a b c d e f
  go_enter Tryz.func6, Tryz.ntmps6
  have hQ0 := Q.refl w
  go_wp2_with fail
  refine (HOF.out _ (hE.ofQ bt)).mono ?_
  rintro e w1 ⟨rfl, hq1⟩
  have hs1 : Q w w1 := Q.trans bt hq1
  have hQ1 : Q w w1 := Q.trans hQ0 hs1
  have BX := (Blk.new w [.int .i8 a, .int .i8 b, .int .i8 c, .int .i8 d, .int .i8 e, .int .i8 f] 25).keep hq1 (by simp)
  replace lBX := BX.lt
  go_wp2_with fail
  refine (HL.out _ (hE.ofQ bt)).mono ?_
  rintro e w2 ⟨v1, rfl, hq2, l1⟩
  have hs2 : Q w1 w2 := Q.trans bt hq2
  have hQ2 : Q w w2 := Q.trans hQ1 hs2
  replace BX := BX.keep hs2 BX.lt
  replace lBX := BX.lt
  have BM := (Blk.new w1 [.int .i64 1, .int .i64 0, .int .i64 (-1), .string ⟨X.toArray⟩, .string ⟨Y.toArray⟩, .string ⟨Z.toArray⟩, .string ⟨X'.toArray⟩, .string ⟨Y'.toArray⟩, .string ⟨Z'.toArray⟩, .int .i64 60, .int .i64 180] 30).keep hq2 (by simp)
  replace m0 := BM.cell 0
  replace m1 := BM.cell 1
  replace m2 := BM.cell 2
  replace m3 := BM.cell 3
  replace m4 := BM.cell 4
  replace m5 := BM.cell 5
  replace m6 := BM.cell 6
  replace m7 := BM.cell 7
  replace m8 := BM.cell 8
  replace m9 := BM.cell 9
  replace m10 := BM.cell 10
  simp only [List.getElem?_cons_zero, List.getElem?_cons_succ] at m0 m1 m2 m3 m4 m5 m6 m7 m8 m9 m10
  replace lBM := BM.lt
  go_wp2_with fail
  refine (HR.out _ (hE.ofQ bt)).mono ?_
  rintro e w3 ⟨v2, rfl, hq3, l2⟩
  have hs3 : Q w2 w3 := Q.trans bt hq3
  have hQ3 : Q w w3 := Q.trans hQ2 hs3
  replace l1 := LenAt.keep l1 hs3
  replace BX := BX.keep hs3 BX.lt
  replace lBX := BX.lt
  replace BM := BM.keep hs3 BM.lt
  replace m0 := BM.cell 0
  replace m1 := BM.cell 1
  replace m2 := BM.cell 2
  replace m3 := BM.cell 3
  replace m4 := BM.cell 4
  replace m5 := BM.cell 5
  replace m6 := BM.cell 6
  replace m7 := BM.cell 7
  replace m8 := BM.cell 8
  replace m9 := BM.cell 9
  replace m10 := BM.cell 10
  simp only [List.getElem?_cons_zero, List.getElem?_cons_succ] at m0 m1 m2 m3 m4 m5 m6 m7 m8 m9 m10
  replace lBM := BM.lt
  go_wp2_with fail
  refine (HZ.out _ (hE.ofQ bt)).mono ?_
  rintro e w4 ⟨rfl, hq4⟩
  have hs4 : Q w3 w4 := Q.trans bt hq4
  have hQ4 : Q w w4 := Q.trans hQ3 hs4
  replace l1 := LenAt.keep l1 hs4
  replace l2 := LenAt.keep l2 hs4
  replace BX := BX.keep hs4 BX.lt
  replace lBX := BX.lt
  replace BM := BM.keep hs4 BM.lt
  replace m0 := BM.cell 0
  replace m1 := BM.cell 1
  replace m2 := BM.cell 2
  replace m3 := BM.cell 3
  replace m4 := BM.cell 4
  replace m5 := BM.cell 5
  replace m6 := BM.cell 6
  replace m7 := BM.cell 7
  replace m8 := BM.cell 8
  replace m9 := BM.cell 9
  replace m10 := BM.cell 10
  simp only [List.getElem?_cons_zero, List.getElem?_cons_succ] at m0 m1 m2 m3 m4 m5 m6 m7 m8 m9 m10
  replace lBM := BM.lt
  clear BM lBM m0 m1 m2 m3 m4 m5 m6 m7 m8 m9 m10
  go_wp2_with fail
  refine (HQ1.out _ _ _ (hE.q hQ4) l1).mono ?_
  rintro e w5 ⟨rfl, hq5⟩
  have hs5 : Q w4 w5 := Q.trans bt hq5
  have hQ5 : Q w w5 := Q.trans hQ4 hs5
  replace l1 := LenAt.keep l1 hs5
  replace l2 := LenAt.keep l2 hs5
  replace BX := BX.keep hs5 BX.lt
  replace lBX := BX.lt
  go_wp2_with fail
  refine (HQ2.out _ _ _ (hE.q hQ5) l2).mono ?_
  rintro e w6 ⟨rfl, hq6⟩
  have hs6 : Q w5 w6 := Q.trans bt hq6
  have hQ6 : Q w w6 := Q.trans hQ5 hs6
  replace l1 := LenAt.keep l1 hs6
  replace l2 := LenAt.keep l2 hs6
  replace BX := BX.keep hs6 BX.lt
  replace lBX := BX.lt
  go_wp2_with fail
  refine (HM.out _ (hE.ofQ bt)).mono ?_
  rintro e w7 ⟨rfl, hq7⟩
  have hs7 : Q w6 w7 := Q.trans bt hq7
  have hQ7 : Q w w7 := Q.trans hQ6 hs7
  replace l1 := LenAt.keep l1 hs7
  replace l2 := LenAt.keep l2 hs7
  replace BX := BX.keep hs7 BX.lt
  replace lBX := BX.lt
  go_wp2_with fail
  refine (HA.out _ (hE.ofQ bt)).mono ?_
  rintro e w8 ⟨rfl, hq8⟩
  have hs8 : Q w7 w8 := Q.trans bt hq8
  have hQ8 : Q w w8 := Q.trans hQ7 hs8
  replace l1 := LenAt.keep l1 hs8
  replace l2 := LenAt.keep l2 hs8
  replace BX := BX.keep hs8 BX.lt
  replace lBX := BX.lt
  go_wp2_with fail
  refine (HSG.out _ _ _ (hE.q hQ8) l1).mono ?_
  rintro e w9 ⟨rfl, hq9⟩
  have hs9 : Q w8 w9 := Q.trans bt hq9
  have hQ9 : Q w w9 := Q.trans hQ8 hs9
  replace l1 := LenAt.keep l1 hs9
  replace l2 := LenAt.keep l2 hs9
  replace BX := BX.keep hs9 BX.lt
  replace lBX := BX.lt
  clear HL HR HZ HQ1 HQ2 HM HA HSG HOF l1 l2 hs1 hs2 hs3 hs4 hs5 hs6 hs7 hs8 hs9 hq1 hq2 hq3 hq4 hq5 hq6 hq7 hq8 hq9 hQ1 hQ2 hQ3 hQ4 hQ5 hQ6 hQ7 hQ8 hQ0
  go_wp2_with fail
  have d0 := BX.drew.cell 0
  have d1 := BX.drew.cell 1
  have d3 := BX.drew.cell 3
  have d4 := BX.drew.cell 4
  simp only [List.getElem?_cons_zero, List.getElem?_cons_succ] at d0 d1 d3 d4
  have hqd : Q w9 w9.drew := Below.drew (Q.refl w9)
  refine wp_steadily 20 (by kernel_rfl) (by kernel_rfl) rfl ?_
  refine steadily_value (i := 0) (v := ?_) rfl rfl (by kernel_rfl) (by kernel_rfl) (fun _ _ _ h => h) (by rfl) ?_ ?_
  rotate_left
  · (intro w' hq; go_simp; try with_reducible rfl)
  simp only [Act.put, List.setIfInBounds_toArray, List.set_cons_zero, List.set_cons_succ]
  refine steadily_value (i := 1) (v := ?_) rfl rfl (by kernel_rfl) (by kernel_rfl) (fun _ _ _ h => h) (by rfl) ?_ ?_
  rotate_left
  · (intro w' hq; go_simp; try with_reducible rfl)
  simp only [Act.put, List.setIfInBounds_toArray, List.set_cons_zero, List.set_cons_succ]
  refine steadily_value (i := 2) (v := ?_) rfl rfl (by kernel_rfl) (by kernel_rfl) (fun _ _ _ h => h) (by rfl) ?_ ?_
  rotate_left
  · (intro w' hq; have hc0 := qcell hq d3; go_simp; try with_reducible rfl)
  simp only [Act.put, List.setIfInBounds_toArray, List.set_cons_zero, List.set_cons_succ]
  refine steadily_value (i := 3) (v := ?_) rfl rfl (by kernel_rfl) (by kernel_rfl) (fun _ _ _ h => h) (by rfl) ?_ ?_
  rotate_left
  · (intro w' hq; go_simp; try with_reducible rfl)
  simp only [Act.put, List.setIfInBounds_toArray, List.set_cons_zero, List.set_cons_succ]
  refine steadily_value (i := 4) (v := ?_) rfl rfl (by kernel_rfl) (by kernel_rfl) (fun _ _ _ h => h) (by rfl) ?_ ?_
  rotate_left
  · (intro w' hq; go_simp; try with_reducible rfl)
  simp only [Act.put, List.setIfInBounds_toArray, List.set_cons_zero, List.set_cons_succ]
  refine steadily_value (i := 5) (v := ?_) rfl rfl (by kernel_rfl) (by kernel_rfl) (fun _ _ _ h => h) (by rfl) ?_ ?_
  rotate_left
  · (intro w' hq; go_simp; try with_reducible rfl)
  simp only [Act.put, List.setIfInBounds_toArray, List.set_cons_zero, List.set_cons_succ]
  refine steadily_value (i := 6) (v := ?_) rfl rfl (by kernel_rfl) (by kernel_rfl) (fun _ _ _ h => h) (by rfl) ?_ ?_
  rotate_left
  · (intro w' hq; have hc0 := qcell hq d0; go_simp; try with_reducible rfl)
  simp only [Act.put, List.setIfInBounds_toArray, List.set_cons_zero, List.set_cons_succ]
  refine steadily_value (i := 7) (v := ?_) rfl rfl (by kernel_rfl) (by kernel_rfl) (fun _ _ _ h => h) (by rfl) ?_ ?_
  rotate_left
  · (intro w' hq; go_simp; try with_reducible rfl)
  simp only [Act.put, List.setIfInBounds_toArray, List.set_cons_zero, List.set_cons_succ]
  refine steadily_value (i := 8) (v := ?_) rfl rfl (by kernel_rfl) (by kernel_rfl) (fun _ _ _ h => h) (by rfl) ?_ ?_
  rotate_left
  · (intro w' hq; go_simp; try with_reducible rfl)
  simp only [Act.put, List.setIfInBounds_toArray, List.set_cons_zero, List.set_cons_succ]
  refine steadily_value (i := 9) (v := ?_) rfl rfl (by kernel_rfl) (by kernel_rfl) (fun _ _ _ h => h) (by rfl) ?_ ?_
  rotate_left
  · (intro w' hq; go_simp; try with_reducible rfl)
  simp only [Act.put, List.setIfInBounds_toArray, List.set_cons_zero, List.set_cons_succ]
  refine steadily_value (i := 10) (v := ?_) rfl rfl (by kernel_rfl) (by kernel_rfl) (fun _ _ _ h => h) (by rfl) ?_ ?_
  rotate_left
  · (intro w' hq; go_simp; try with_reducible rfl)
  simp only [Act.put, List.setIfInBounds_toArray, List.set_cons_zero, List.set_cons_succ]
  refine steadily_value (i := 11) (v := ?_) rfl rfl (by kernel_rfl) (by kernel_rfl) (fun _ _ _ h => h) (by rfl) ?_ ?_
  rotate_left
  · (intro w' hq; have hc0 := qcell hq d4; go_simp; try with_reducible rfl)
  simp only [Act.put, List.setIfInBounds_toArray, List.set_cons_zero, List.set_cons_succ]
  refine steadily_value (i := 12) (v := ?_) rfl rfl (by kernel_rfl) (by kernel_rfl) (fun _ _ _ h => h) (by rfl) ?_ ?_
  rotate_left
  · (intro w' hq; go_simp; try with_reducible rfl)
  simp only [Act.put, List.setIfInBounds_toArray, List.set_cons_zero, List.set_cons_succ]
  refine steadily_value (i := 13) (v := ?_) rfl rfl (by kernel_rfl) (by kernel_rfl) (fun _ _ _ h => h) (by rfl) ?_ ?_
  rotate_left
  · (intro w' hq; go_simp; try with_reducible rfl)
  simp only [Act.put, List.setIfInBounds_toArray, List.set_cons_zero, List.set_cons_succ]
  refine steadily_value (i := 14) (v := ?_) rfl rfl (by kernel_rfl) (by kernel_rfl) (fun _ _ _ h => h) (by rfl) ?_ ?_
  rotate_left
  · (intro w' hq; go_simp; try with_reducible rfl)
  simp only [Act.put, List.setIfInBounds_toArray, List.set_cons_zero, List.set_cons_succ]
  refine steadily_value (i := 15) (v := ?_) rfl rfl (by kernel_rfl) (by kernel_rfl) (fun _ _ _ h => h) (by rfl) ?_ ?_
  rotate_left
  · (intro w' hq; have hc0 := qcell hq d1; go_simp; try with_reducible rfl)
  simp only [Act.put, List.setIfInBounds_toArray, List.set_cons_zero, List.set_cons_succ]
  refine steadily_value (i := 16) (v := ?_) rfl rfl (by kernel_rfl) (by kernel_rfl) (fun _ _ _ h => h) (by rfl) ?_ ?_
  rotate_left
  · (intro w' hq; go_simp; try with_reducible rfl)
  simp only [Act.put, List.setIfInBounds_toArray, List.set_cons_zero, List.set_cons_succ]
  refine steadily_value (i := 17) (v := ?_) rfl rfl (by kernel_rfl) (by kernel_rfl) (fun _ _ _ h => h) (by rfl) ?_ ?_
  rotate_left
  · (intro w' hq; go_simp; try with_reducible rfl)
  simp only [Act.put, List.setIfInBounds_toArray, List.set_cons_zero, List.set_cons_succ]
  refine steadily_value (i := 18) (v := ?_) rfl rfl (by kernel_rfl) (by kernel_rfl) (fun _ _ _ h => h) (by rfl) ?_ ?_
  rotate_left
  · (intro w' hq; go_simp; try with_reducible rfl)
  simp only [Act.put, List.setIfInBounds_toArray, List.set_cons_zero, List.set_cons_succ]
  refine steadily_value (i := 19) (v := ?_) rfl rfl (by kernel_rfl) (by kernel_rfl) (fun _ _ _ h => h) (by rfl) ?_ ?_
  rotate_left
  · (intro w' hq; go_simp; try with_reducible rfl)
  simp only [Act.put, List.setIfInBounds_toArray, List.set_cons_zero, List.set_cons_succ]
  refine steadily_done (by kernel_rfl) (fun w10 hq10 => ?_)
  simp only [List.drop_succ_cons, List.drop_nil]
  have hs10 : Q w9 w10 := Q.trans hqd hq10
  have hQ10 : Q w w10 := Q.trans hQ9 hs10
  replace BX := BX.keep hs10 BX.lt
  clear d0 d1 d3 d4 hqd hq10 hs10 hQ9
  have c0 := BX.cell 0
  have c1 := BX.cell 1
  have c2 := BX.cell 2
  have c3 := BX.cell 3
  have c4 := BX.cell 4
  have c5 := BX.cell 5
  simp only [List.getElem?_cons_zero, List.getElem?_cons_succ] at c0 c1 c2 c3 c4 c5
  obtain ⟨yy, hyy⟩ : ∃ yy, (e - b) * (e - b) = yy := ⟨_, rfl⟩
  rw [hyy] at x2
  have wyy := Go.IntWalk.i64_in yy (by omega)
  rcases hcase with ⟨h1, h2⟩ | ⟨h1, h7, h2⟩ | ⟨h1, h7, h2⟩
  · rw [decide_eq_false h1] at hEq
    rw [h2] at HN
    obtain ⟨xx, hxx⟩ : ∃ xx, (d - a) * (d - a) = xx := ⟨_, rfl⟩
    rw [hxx] at x3
    have wxx := Go.IntWalk.i64_in xx (by omega)
    have wsum := Go.IntWalk.i64_in (xx + yy) (by omega)
    have HNK := Lib.hid (HN.out (xx + yy) (by rw [hxx, hyy]))
    clear h1 h2 HN x1
    go_wp2_with fail
    refine (HNK.out _ (hE.q hQ10)).mono ?_
    rintro e' w11 ⟨rfl, hq11⟩
    have hQ11 : Q w w11 := Q.trans hQ10 hq11
    go_wp2_with fail
    refine (awake32 _ (hE.q hQ11)).mono ?_
    rintro e' w12 ⟨rfl, hq12⟩
    have hQ12 : Q w w12 := Q.trans hQ11 hq12
    go_wp2
    go_ret
    exact ⟨rfl, hQ12⟩
  · rw [decide_eq_true h1] at hEq
    rw [h2] at HN
    have wsum := Go.IntWalk.i64_in (65025 + yy) (by omega)
    have HNK := Lib.hid (HN.out (65025 + yy) (by rw [hyy]; omega))
    have h7' : (a == 127) = true := by rw [h7]; rfl
    clear h1 h2 h7 HN x1 x3
    go_wp2_with fail
    refine (HNK.out _ (hE.q hQ10)).mono ?_
    rintro e' w11 ⟨rfl, hq11⟩
    have hQ11 : Q w w11 := Q.trans hQ10 hq11
    go_wp2_with fail
    refine (awake32 _ (hE.q hQ11)).mono ?_
    rintro e' w12 ⟨rfl, hq12⟩
    have hQ12 : Q w w12 := Q.trans hQ11 hq12
    go_wp2
    go_ret
    exact ⟨rfl, hQ12⟩
  · rw [decide_eq_true h1] at hEq
    rw [h2] at HN
    have wsum := Go.IntWalk.i64_in (1 + yy) (by omega)
    have HNK := Lib.hid (HN.out (1 + yy) (by rw [hyy]; omega))
    have h7' : (a == 127) = false := by simpa using h7
    clear h1 h2 h7 HN x1 x3
    go_wp2_with fail
    refine (HNK.out _ (hE.q hQ10)).mono ?_
    rintro e' w11 ⟨rfl, hq11⟩
    have hQ11 : Q w w11 := Q.trans hQ10 hq11
    go_wp2_with fail
    refine (awake32 _ (hE.q hQ11)).mono ?_
    rintro e' w12 ⟨rfl, hq12⟩
    have hQ12 : Q w w12 := Q.trans hQ11 hq12
    go_wp2
    go_ret
    exact ⟨rfl, hQ12⟩

end Go.Proofs.YthokehkdpmbeaaaGreatDoor

namespace Kp

theorem isqrt_self (n : Nat) : isqrt (n * n) = n := isqrt_of ⟨Nat.le_refl _, Nat.mul_lt_mul'' (Nat.lt_succ_self n) (Nat.lt_succ_self n)⟩

end Kp

namespace Go.Proofs.YthokehkdpmbeaaaGreatDoor
open Go.RowKit Kp
open Go.Lib (decDigits)

theorem mul_self_parts (t : Rat) : (t * t).num = t.num * t.num ∧ (t * t).den = t.den * t.den := by
  have h1 : t * (t.den : Rat) = (t.num : Rat) := mul_den_num t
  have h2 : (t * t) * ((t * t).den : Rat) = ((t * t).num : Rat) := mul_den_num (t * t)
  have hc1 := t.reduced
  have hc2 := (t * t).reduced
  have hd := t.den_nz
  have h3 : (((t * t).num * ((t.den : Int) * t.den) : Int) : Rat) = ((t.num * t.num * ((t * t).den : Int) : Int) : Rat) := by
    rw [Rat.intCast_mul, Rat.intCast_mul, Rat.intCast_mul, Rat.intCast_mul, Rat.intCast_natCast, Rat.intCast_natCast, ← h2, ← h1]
    grind
  have h4 : (t * t).num * ((t.den : Int) * t.den) = t.num * t.num * ((t * t).den : Int) := by exact_mod_cast h3
  generalize (t * t).num = N at *
  generalize (t * t).den = D at *
  have h5 : N.natAbs * (t.den * t.den) = t.num.natAbs * t.num.natAbs * D := by
    have := congrArg Int.natAbs h4
    simpa [Int.natAbs_mul] using this
  have c3 : Nat.Coprime (t.num.natAbs * t.num.natAbs) (t.den * t.den) := Nat.Coprime.mul_left (Nat.Coprime.mul_right hc1 hc1) (Nat.Coprime.mul_right hc1 hc1)
  have e1 : D ∣ t.den * t.den := by
    have : D ∣ N.natAbs * (t.den * t.den) := ⟨t.num.natAbs * t.num.natAbs, by rw [h5, Nat.mul_comm]⟩
    exact Nat.Coprime.dvd_of_dvd_mul_left (Nat.Coprime.symm hc2) this
  have e2 : t.den * t.den ∣ D := by
    have : t.den * t.den ∣ t.num.natAbs * t.num.natAbs * D := ⟨N.natAbs, by rw [← h5, Nat.mul_comm]⟩
    exact Nat.Coprime.dvd_of_dvd_mul_left (Nat.Coprime.symm c3) this
  have e3 : D = t.den * t.den := Nat.dvd_antisymm e1 e2
  refine ⟨?_, e3⟩
  rw [e3, Int.natCast_mul] at h4
  have : ((t.den : Int) * t.den) ≠ 0 := Int.mul_ne_zero (by omega) (by omega)
  exact Int.eq_of_mul_eq_mul_right this h4

theorem isSq_self {t : Rat} (ht : 0 ≤ t.num) : isSq (t * t) = true ∧ sqR (t * t) = t := by
  obtain ⟨h1, h2⟩ := mul_self_parts t
  obtain ⟨n, hn⟩ := Int.eq_ofNat_of_zero_le ht
  have e1 : (t * t).num.toNat = n * n := by rw [h1, hn, ← Int.natCast_mul, Int.toNat_natCast]
  unfold isSq sqR
  rw [e1, h2, isqrt_self, isqrt_self]
  refine ⟨by simp, ?_⟩
  rw [← hn]
  exact Rat.num_divInt_den t

theorem rpos {q : Rat} (h : 0 < q.num) : 0 < q := Rat.lt_of_le_of_ne (Rat.num_nonneg.1 (by omega)) (fun e => by rw [← e] at h; simp at h)
theorem pos_of_num {x : Rat} (h : 0 < x.num) : x ≠ 0 := fun e => by rw [e] at h; simp at h

/-- Two terms of the same value cancel. -/
theorem eq_diff {x y : Rat} {l m : Nat} (px : 0 < x.num) (py : 0 < y.num) (hl : 0 < l) (hm : 0 < m) (bl : l < 10 ^ 16) (bm : m < 10 ^ 16) (h : x * x * (l : Rat) = y * y * (m : Rat)) :
    signS (srtC (outC (addC [(x, l)] (-y, m)))) = some 0 ∧ (∀ c ∈ addC [(x, l)] (-y, m), Bd 50 c.1 ∧ 0 < c.2 ∧ c.2 < 10 ^ 16) := by
  have hx := pos_of_num px
  have hy := pos_of_num py
  have hl0 := nat_ne hl
  have hm0 := nat_ne hm
  have q1 : (m : Rat) / (l : Rat) = (x / y) * (x / y) := by grind
  have q2 : (l : Rat) / (m : Rat) = (y / x) * (y / x) := by grind
  have n1 : 0 ≤ (x / y).num := quot_nonneg (by omega) py
  have n2 : 0 ≤ (y / x).num := quot_nonneg (by omega) px
  have key : ∀ n : Nat, 0 < n → n < 10 ^ 16 → addC [(x, l)] (-y, m) = [(0, n)] → signS (srtC (outC (addC [(x, l)] (-y, m)))) = some 0 ∧ (∀ c ∈ addC [(x, l)] (-y, m), Bd 50 c.1 ∧ 0 < c.2 ∧ c.2 < 10 ^ 16) := fun n h1 h2 e => by
    rw [e]
    refine ⟨by unfold signS outC srtC; simp, fun c hc => ?_⟩
    rw [List.mem_singleton] at hc
    subst hc
    exact ⟨(show Bd 50 0 from ⟨by decide, by decide⟩), h1, h2⟩
  by_cases hml : m < l
  · refine key m hm bm ?_
    unfold addC plusC
    rw [q1, if_pos (isSq_self n1).1, if_pos hml]
    simp only
    rw [q2, (isSq_self n2).2, show -y + x * (y / x) = 0 by grind]
  · refine key l hl bl ?_
    unfold addC plusC
    rw [q1, if_pos (isSq_self n1).1, if_neg hml]
    simp only
    rw [(isSq_self n1).2, show x + -y * (x / y) = 0 by grind]

theorem sq_cross (x y : Rat) (l : Nat) : ((sqN x l * (y.den * y.den) : Nat) : Rat) = x * x * (l : Rat) * ((x.den : Rat) * (x.den : Rat) * ((y.den : Rat) * (y.den : Rat))) := by
  rw [Rat.natCast_mul, sqN_is, Rat.natCast_mul]; grind

theorem den_pos4 (x y : Rat) : 0 < (x.den : Rat) * (x.den : Rat) * ((y.den : Rat) * (y.den : Rat)) := by
  have h : 0 < x.den * x.den * (y.den * y.den) := Nat.mul_pos (Nat.mul_pos x.den_pos x.den_pos) (Nat.mul_pos y.den_pos y.den_pos)
  have h2 : (0 : Rat) < ((x.den * x.den * (y.den * y.den) : Nat) : Rat) := by exact_mod_cast h
  rwa [Rat.natCast_mul, Rat.natCast_mul, Rat.natCast_mul] at h2

theorem sq_lt_cross {x y : Rat} {l m : Nat} (h : x * x * (l : Rat) < y * y * (m : Rat)) : sqN x l * (y.den * y.den) < sqN y m * (x.den * x.den) := by
  have h1 := Rat.mul_lt_mul_of_pos_right h (den_pos4 x y)
  have e1 := sq_cross x y l
  have e2 := sq_cross y x m
  have h2 : ((sqN x l * (y.den * y.den) : Nat) : Rat) < ((sqN y m * (x.den * x.den) : Nat) : Rat) := by
    rw [e1, e2]
    have : (y.den : Rat) * (y.den : Rat) * ((x.den : Rat) * (x.den : Rat)) = (x.den : Rat) * (x.den : Rat) * ((y.den : Rat) * (y.den : Rat)) := by grind
    rw [this]; exact h1
  exact_mod_cast h2

/-- How two values lie to each other, by their squares. -/
def ValOrd (s t : Rat) (σ : Int) : Prop := (s < t ∧ σ = -1) ∨ (s = t ∧ σ = 0) ∨ (t < s ∧ σ = 1)

/-- Compare of two positive terms, by their values. -/
theorem surd_Compare_val (x y : Rat) (l m : Nat) (hx : PTerm x l) (hy : PTerm y m) (σ : Int) (hσ : ValOrd (x * x * (l : Rat)) (y * y * (m : Rat)) σ) (B1 B2 : Nat) (v1 v2 : Value) (w : World) (hE : Env w) (h1 : Surd1 w B1 v1 x l) (h2 : Surd1 w B2 v2 y m) :
    Calls Tryz.prog 20 #[v1, v2] w fun e w' => e = .returned (.tuple #[.int .i64 σ, .int .i64 0]) ∧ Q w w' := by
  rcases hσ with ⟨h, rfl⟩ | ⟨h, rfl⟩ | ⟨h, rfl⟩
  · have hc := sq_lt_cross h
    exact surd_Compare_one x y l m hx.t hy.t hx.pos hy.pos hx.bx hy.bx hx.bl hy.bl hx.dx hy.dx (-1) (.inr ⟨by omega, by rw [if_neg (by omega)]⟩) B1 B2 v1 v2 w hE hE.places h1 h2
  · obtain ⟨e1, e2⟩ := eq_diff hx.pos hy.pos hx.t.norm.1 hy.t.norm.1 hx.bl hy.bl h
    exact surd_Compare_sgn x y l m hx.t hy.t hx.bx hy.bx hx.bl hy.bl 0 e1 e2 B1 B2 v1 v2 w hE h1 h2
  · have hc := sq_lt_cross h
    exact surd_Compare_one x y l m hx.t hy.t hx.pos hy.pos hx.bx hy.bx hx.bl hy.bl hx.dx hy.dx 1 (.inr ⟨by omega, by rw [if_pos hc]⟩) B1 B2 v1 v2 w hE hE.places h1 h2

set_option maxHeartbeats 1000000 in
/-- Int of a short integer. -/
theorem rational_Int_nat (n : Nat) (hn : n < 10 ^ 8) (w : World) (hE : Env w) :
    Calls Tryz.prog 24 #[.string ⟨(Lib.itoa (n : Int)).toArray⟩] w fun e w' => e = .returned (.tuple #[.int .i64 n, .int .i64 0]) ∧ Q w w' := by
  have b8 : Bd 8 (n : Rat) := ⟨by rw [Rat.num_natCast, Int.natAbs_natCast]; exact hn, by rw [Rat.den_natCast]; exact by decide⟩
  have hr := fun w hw => rational_read (rstr (n : Rat)) (by have := rstr_len (b8.rlim (by decide)); omega) w hw
  rw [readV_rstr _ (b8.rlim (by decide)), Rat.num_natCast, Rat.den_natCast, rstr_nat, show ((1 : Nat) : Int) = 1 from rfl, itoa_one] at hr
  have HR := Lib.hid hr
  have hl : (Lib.itoa (n : Int)).length ≤ 8 := by rw [← dec_eq_itoa]; exact (decDigits_len_le _ 8 (by decide)).2 hn
  have HA := Lib.hid (fun w => lib_Atoi (n : Int) (by omega) w)
  clear hr b8 hl
  generalize Lib.itoa (n : Int) = S at *
  go_enter Tryz.func24, Tryz.ntmps24
  have hQ0 := Q.refl w
  go_wp2_with fail
  refine (HR.out _ (hE.ofQ bt)).mono ?_
  rintro e w1 ⟨rfl, hq1⟩
  have hs1 : Q w w1 := Q.trans bt hq1
  have hQ1 : Q w w1 := Q.trans hQ0 hs1
  go_wp2_with fail
  refine (HA.out _).mono ?_
  rintro e w2 ⟨rfl, hq2⟩
  have hQ2 : Q w w2 := Q.trans hQ1 (Q.trans bt hq2)
  go_wp2
  go_ret2
  exact ⟨rfl, hQ2⟩

/-- Make of a positive number. -/
theorem surd_Make_num {n : Nat} (a : Rat) (ba : Bd n a) (hn : n ≤ 20) (pa : a ≠ 0) (b : Nat) (t : TypeId) (w : World) (hE : Env w) (hb : Blk w b [.string ⟨(rstr a).toArray⟩, .string ⟨#[49]⟩] t) :
    Calls Tryz.prog 25 #[.slice (some ⟨b, 0, none⟩) 1 1] w fun e w' => ∃ v', e = .returned (.tuple #[v', .int .i64 0]) ∧ Q w w' ∧ Surd1 w' w.heap.size v' a 1 := by
  have b20 : Bd 20 a := ba.mono hn
  have h := surd_Make_root (rest := []) (cap := 1) a 1 b20 (by decide) pa ⟨by decide, by decide⟩ (by decide) b t w hE (by rw [rstr_one]; exact hb)
  have hp := norm_parts norm_one
  rw [show ((1 : Nat) : Rat) = 1 from rfl] at hp
  rw [hp.1, Rat.mul_one, lOf_left, hp.2] at h
  refine h.mono fun e w' he => ?_
  obtain ⟨hq, v, hv, hs⟩ := MakeEnd.good (l := 1) he (by have := longV_bd b20 (by decide); omega) (by have := longV_bd (show Bd 40 ((1 : Nat) : Rat) from ⟨by decide, by decide⟩) (by decide); omega)
  exact ⟨v, hv, hq, hs⟩

theorem dd_pos (X : Rat) : (0 : Rat) < (X.den : Rat) * (X.den : Rat) := by
  have h : 0 < X.den * X.den := Nat.mul_pos X.den_pos X.den_pos
  have h2 : (0 : Rat) < ((X.den * X.den : Nat) : Rat) := by exact_mod_cast h
  rwa [Rat.natCast_mul] at h2

theorem val_lt {X : Rat} {l C : Nat} (h : C * C * (X.den * X.den) < sqN X l) : (C : Rat) * (C : Rat) < X * X * (l : Rat) := by
  have h1 : ((C * C * (X.den * X.den) : Nat) : Rat) < ((sqN X l : Nat) : Rat) := by exact_mod_cast h
  rw [sqN_is, Rat.natCast_mul, Rat.natCast_mul, Rat.natCast_mul] at h1
  by_cases h2 : (C : Rat) * (C : Rat) < X * X * (l : Rat)
  · exact h2
  · have h3 := Rat.mul_le_mul_of_nonneg_right (Rat.not_lt.1 h2) (Rat.le_of_lt (dd_pos X))
    exact absurd h1 (Rat.not_lt.2 h3)

theorem val_le {X : Rat} {l C : Nat} (h : sqN X l ≤ C * C * (X.den * X.den)) : X * X * (l : Rat) ≤ (C : Rat) * (C : Rat) := by
  have h1 : ((sqN X l : Nat) : Rat) ≤ ((C * C * (X.den * X.den) : Nat) : Rat) := by exact_mod_cast h
  rw [sqN_is, Rat.natCast_mul, Rat.natCast_mul, Rat.natCast_mul] at h1
  by_cases h2 : (C : Rat) * (C : Rat) < X * X * (l : Rat)
  · have h3 := Rat.mul_lt_mul_of_pos_right h2 (dd_pos X)
    exact absurd h1 (Rat.not_le.2 h3)
  · exact Rat.not_lt.1 h2

theorem val_le_nat {X : Rat} {l C : Nat} (h : C * (X.den * X.den) ≤ sqN X l) : (C : Rat) ≤ X * X * (l : Rat) := by
  have h1 : ((C * (X.den * X.den) : Nat) : Rat) ≤ ((sqN X l : Nat) : Rat) := by exact_mod_cast h
  rw [sqN_is, Rat.natCast_mul, Rat.natCast_mul] at h1
  by_cases h2 : X * X * (l : Rat) < (C : Rat)
  · have h3 := Rat.mul_lt_mul_of_pos_right h2 (dd_pos X)
    exact absurd h1 (Rat.not_le.2 h3)
  · exact Rat.not_lt.1 h2

/-- What is rounded up. -/
theorem cei_spec {X : Rat} {l : Nat} (hp : PTerm X l) : 1 ≤ cei X l ∧ sqN X l ≤ cei X l * cei X l * (X.den * X.den) ∧ (cei X l - 1) * (cei X l - 1) * (X.den * X.den) < sqN X l := by
  have hF := flo_is X l
  have hd : 0 < X.den * X.den := Nat.mul_pos X.den_pos X.den_pos
  have hX : 0 < sqN X l := by
    have := sqN_pos (x := X) (l := l) (by have := hp.pos; omega) hp.t.norm.1 1
    simpa using this
  unfold cei
  generalize flo X l = F at *
  split
  · next h =>
    have hF0 : 0 < F := by
      rcases Nat.eq_zero_or_pos F with e | e
      · subst e; simp at h; omega
      · exact e
    obtain ⟨G, rfl⟩ : ∃ G, F = G + 1 := ⟨F - 1, by omega⟩
    refine ⟨by omega, by omega, ?_⟩
    rw [Nat.add_sub_cancel, ← h]
    exact Nat.mul_lt_mul_of_pos_right (Nat.mul_lt_mul'' (by omega) (by omega)) hd
  · next h =>
    have := hF.lo
    have := hF.hi
    refine ⟨by omega, by omega, ?_⟩
    rw [Nat.add_sub_cancel]; omega

theorem den_mul_le (x y : Rat) : (x * y).den ≤ x.den * y.den := by
  have h := Rat.mul_is x y
  rw [← Int.natCast_mul] at h
  rw [← h]
  exact divInt_den_le (Nat.mul_pos x.den_pos y.den_pos)

theorem third_den (k : Int) : (Rat.divInt k ((3 : Nat) : Int)).den ≤ 3 := divInt_den_le (by decide)

theorem pterm_num {a : Rat} {n : Nat} (hb : Bd n a) (hn : n ≤ 20) (h1 : 1 ≤ n) (hd : a.den < 10 ^ 8) (pa : 0 < a.num) : PTerm a 1 :=
  ⟨⟨(hb.mono hn).rlim (by decide), pos_of_num pa, by have := longV_bd hb h1; omega, norm_one, (show Bd 40 ((1 : Nat) : Rat) from ⟨by decide, by decide⟩)⟩, pa, hb.mono hn, hd, by decide⟩

/-- The numbers of the law. -/
theorem rounds_facts {s : Rat} (bs : Bd 6 s) (sp : 0 < s.num) {N : Nat} (hs : s = Rat.divInt (N : Int) ((4 : Nat) : Int)) (hN : N ≤ 195075) {k : Nat} (k1 : 1 ≤ k) (k2 : k ≤ 256) {u : Rat} (hu : u = Rat.divInt (k : Int) ((3 : Nat) : Int)) :
    PTerm (aOf s) (leftOf s) ∧ PTerm (aOf s * (1 / u)) (leftOf s) ∧ sqN (aOf s * (1 / u)) (leftOf s) < 10 ^ 8 * ((aOf s * (1 / u)).den * (aOf s * (1 / u)).den) := by
  have bu : Bd 3 u := by rw [hu]; exact bd_divInt (by decide) (by rw [Int.natAbs_natCast]; omega) (by decide)
  have up : 0 < u.num := by rw [hu]; exact divInt_num_pos (by omega) (by decide)
  have ba := aOf_bd bs sp
  have bl : Bd 12 (leftOf s : Rat) := lOf_bd bs sp (by decide)
  have ht := term_of (bs.mono (by decide)) sp
  have pa := aOf_pos bs sp
  have hl16 : leftOf s < 10 ^ 16 := by
    have h := bl.1
    rw [Rat.num_natCast, Int.natAbs_natCast] at h
    exact Nat.lt_of_lt_of_le h (by decide)
  have sd : s.den ≤ 4 := by rw [hs]; exact divInt_den_le (by decide)
  have ad : (aOf s).den ≤ 4 := Nat.le_trans (divInt_den_le s.den_pos) sd
  have bi : Bd 3 (1 / u) := inv_bd bu up
  have pi := inv_pos u up
  have px : 0 < (aOf s * (1 / u)).num := num_pos_mul pa pi
  have bx : Bd 15 (aOf s * (1 / u)) := ba.mul bi
  have xd : (aOf s * (1 / u)).den < 10 ^ 8 := by
    have h1 := den_mul_le (aOf s) (1 / u)
    have h2 := Nat.mul_le_mul ad (Nat.le_of_lt bi.2)
    omega
  refine ⟨⟨ht, pa, ba.mono (by decide), by omega, hl16⟩, ⟨⟨bx.rlim (by decide), pos_of_num px, by have := longV_bd bx (by decide); omega, ht.norm, ht.c40⟩, px, bx.mono (by decide), xd, hl16⟩, ?_⟩
  rcases Nat.lt_or_ge (sqN (aOf s * (1 / u)) (leftOf s)) (10 ^ 8 * ((aOf s * (1 / u)).den * (aOf s * (1 / u)).den)) with h | h
  · exact h
  · exfalso
    have h1 := val_le_nat (C := 10 ^ 8) h
    have hr := root_sq s sp
    have hu0 := pos_of_num up
    have e1 : (aOf s * (1 / u)) * (aOf s * (1 / u)) * (leftOf s : Rat) * (u * u) = s := by
      have : (aOf s * (1 / u)) * (aOf s * (1 / u)) * (leftOf s : Rat) * (u * u) = aOf s * aOf s * (leftOf s : Rat) := by grind
      rw [this, hr]
    generalize (aOf s * (1 / u)) * (aOf s * (1 / u)) * (leftOf s : Rat) = A at h1 e1
    have e2 : A * ((k : Rat) * (k : Rat)) * 4 = 9 * (N : Rat) := by
      rw [Rat.divInt_eq_div, Rat.intCast_natCast, Rat.intCast_natCast] at hs hu
      have q3 : ((3 : Nat) : Rat) = 3 := rfl
      have q4 : ((4 : Nat) : Rat) = 4 := rfl
      rw [q4] at hs
      rw [q3] at hu
      rw [hs, hu] at e1
      clear hs hu bs sp bu up ba bl ht pa hl16 sd ad bi pi px bx xd h hr hu0 h1
      grind
    have k0 : (0 : Rat) ≤ (k : Rat) * (k : Rat) := by
      have : (0 : Rat) ≤ ((k * k : Nat) : Rat) := by exact_mod_cast Nat.zero_le _
      rwa [Rat.natCast_mul] at this
    have h2 := Rat.mul_le_mul_of_nonneg_right h1 k0
    have h3 := Rat.mul_le_mul_of_nonneg_right h2 (show (0 : Rat) ≤ 4 by decide)
    rw [e2] at h3
    have h4 : ((10 ^ 8 * (k * k) * 4 : Nat) : Rat) ≤ ((9 * N : Nat) : Rat) := by
      rw [Rat.natCast_mul, Rat.natCast_mul, Rat.natCast_mul, Rat.natCast_mul]
      exact h3
    have h5 : 10 ^ 8 * (k * k) * 4 ≤ 9 * N := by exact_mod_cast h4
    have h6 : 1 * 1 ≤ k * k := Nat.mul_le_mul k1 k1
    omega

/-- What is made of a number that is not negative. -/
def NumAt (w : World) (B : Nat) (v : Value) (a : Rat) : Prop := (a = 0 ∧ v = .slice none 0 0) ∨ (a ≠ 0 ∧ Surd1 w B v a 1)
theorem NumAt.keep {w w' : World} {B : Nat} {v : Value} {a : Rat} (h : NumAt w B v a) (hq : Q w w') : NumAt w' B v a :=
  h.elim .inl (fun h => .inr ⟨h.1, surd1_keep h.2 hq⟩)

theorem surd_Make_any {n : Nat} (a : Rat) (ba : Bd n a) (hn : n ≤ 20) (b : Nat) (t : TypeId) (w : World) (hE : Env w) (hb : Blk w b [.string ⟨(rstr a).toArray⟩, .string ⟨#[49]⟩] t) :
    Calls Tryz.prog 25 #[.slice (some ⟨b, 0, none⟩) 1 1] w fun e w' => ∃ v', e = .returned (.tuple #[v', .int .i64 0]) ∧ Q w w' ∧ NumAt w' w.heap.size v' a := by
  by_cases h0 : a = 0
  · subst h0
    rw [rstr_zero] at hb
    exact (surd_Make_zero b t w hE hb).mono fun e w' ⟨h1, h2⟩ => ⟨_, h1, h2, .inl ⟨rfl, rfl⟩⟩
  · exact (surd_Make_num a ba hn h0 b t w hE hb).mono fun e w' ⟨v', h1, h2, h3⟩ => ⟨v', h1, h2, .inr ⟨h0, h3⟩⟩

/-- Compare of a number that is not negative with a positive term. -/
theorem surd_Compare_num {n : Nat} (a x : Rat) (l : Nat) (ba : Bd n a) (hn : n ≤ 20) (h1n : 1 ≤ n) (da : a.den < 10 ^ 8) (a0 : 0 ≤ a.num) (hx : PTerm x l) (σ : Int) (hσ : ValOrd (a * a) (x * x * (l : Rat)) σ) (B1 B2 : Nat) (v1 v2 : Value) (w : World) (hE : Env w) (h1 : NumAt w B1 v1 a) (h2 : Surd1 w B2 v2 x l) :
    Calls Tryz.prog 20 #[v1, v2] w fun e w' => e = .returned (.tuple #[.int .i64 σ, .int .i64 0]) ∧ Q w w' := by
  rcases h1 with ⟨e0, rfl⟩ | ⟨e0, h1⟩
  · have hpos : 0 < x * x * (l : Rat) := by
      have q1 := num_pos_mul (num_pos_mul hx.pos hx.pos) (show 0 < ((l : Nat) : Rat).num by rw [Rat.num_natCast]; have := hx.t.norm.1; omega)
      exact rpos q1
    have hm : σ = -1 := by
      rw [e0, Rat.mul_zero] at hσ
      rcases hσ with ⟨_, h⟩ | ⟨h, _⟩ | ⟨h, _⟩
      · exact h
      · exact absurd hpos (by rw [← h]; exact Rat.lt_irrefl)
      · exact absurd (Rat.le_of_lt h) (Rat.not_le.2 hpos)
    subst hm
    exact surd_Compare_nil x l hx.t hx.pos hx.bx hx.dx hx.bl B2 v2 w hE h2
  · have pa : 0 < a.num := by
      have : a.num ≠ 0 := fun h => e0 (Rat.num_eq_zero.1 h)
      omega
    exact surd_Compare_val a x 1 l (pterm_num ba hn h1n da pa) hx σ (by rw [show ((1 : Nat) : Rat) = 1 from rfl, Rat.mul_one]; exact hσ) B1 B2 v1 v2 w hE h1 h2

/-- The values of the law. -/
theorem rounds_vals {s u : Rat} (up : 0 < u.num) {C : Nat} (hC : C = cei (aOf s * (1 / u)) (leftOf s)) (hp : PTerm (aOf s * (1 / u)) (leftOf s)) :
    1 ≤ C ∧ (∃ σ, ValOrd ((C : Rat) * u * ((C : Rat) * u)) (aOf s * aOf s * (leftOf s : Rat)) σ ∧ (σ = 0 ∨ σ = 1)) ∧ ValOrd (((C : Rat) * u - u) * ((C : Rat) * u - u)) (aOf s * aOf s * (leftOf s : Rat)) (-1) := by
  obtain ⟨c1, c2, c3⟩ := cei_spec hp
  rw [← hC] at c1 c2 c3
  have v1 := val_le c2
  have v2 := val_lt c3
  have hu0 := pos_of_num up
  have uu : 0 < u * u := Rat.mul_pos (rpos up) (rpos up)
  have e1 : (aOf s * (1 / u)) * (aOf s * (1 / u)) * (leftOf s : Rat) * (u * u) = aOf s * aOf s * (leftOf s : Rat) := by grind
  have w1 := Rat.mul_le_mul_of_nonneg_right v1 (Rat.le_of_lt uu)
  have w2 := Rat.mul_lt_mul_of_pos_right v2 uu
  rw [e1] at w1 w2
  have ec : ((C - 1 : Nat) : Rat) = (C : Rat) - 1 := by
    obtain ⟨G, rfl⟩ : ∃ G, C = G + 1 := ⟨C - 1, by omega⟩
    rw [Nat.add_sub_cancel, Rat.natCast_add]
    have : ((1 : Nat) : Rat) = 1 := rfl
    rw [this]; grind
  rw [ec] at w2
  have f1 : (C : Rat) * (C : Rat) * (u * u) = (C : Rat) * u * ((C : Rat) * u) := by grind
  have f2 : ((C : Rat) - 1) * ((C : Rat) - 1) * (u * u) = ((C : Rat) * u - u) * ((C : Rat) * u - u) := by grind
  rw [f1] at w1
  rw [f2] at w2
  refine ⟨c1, ?_, .inl ⟨w2, rfl⟩⟩
  by_cases h : (C : Rat) * u * ((C : Rat) * u) = aOf s * aOf s * (leftOf s : Rat)
  · exact ⟨0, .inr (.inl ⟨h, rfl⟩), .inl rfl⟩
  · exact ⟨1, .inr (.inr ⟨Rat.lt_of_le_of_ne w1 (fun e => h e.symm), rfl⟩), .inr rfl⟩

/-- The bounds of what is rounded. -/
theorem mult_bd {C k : Nat} (hC : C < 10 ^ 6) (hk : k ≤ 256) {u : Rat} (hu : u = Rat.divInt (k : Int) ((3 : Nat) : Int)) :
    Bd 9 ((C : Rat) * u) ∧ ((C : Rat) * u).den < 10 ^ 8 := by
  have e : (C : Rat) * u = Rat.divInt ((C * k : Nat) : Int) ((3 : Nat) : Int) := by
    rw [hu, Rat.divInt_eq_div, Rat.divInt_eq_div, Rat.intCast_natCast, Rat.intCast_natCast, Rat.intCast_natCast, Rat.natCast_mul]; grind
  rw [e]
  have h1 : C * k ≤ 10 ^ 6 * 256 := Nat.mul_le_mul (by omega) hk
  exact ⟨bd_divInt (by decide) (by rw [Int.natAbs_natCast]; omega) (by decide), by have := third_den ((C * k : Nat) : Int); omega⟩

set_option maxRecDepth 100000 in
set_option maxHeartbeats 8000000 in
theorem rounds32_law (a b c d e f : Int) (ha : I8 a) (hb : I8 b) (hc : I8 c) (hd : I8 d) (he : I8 e) (hf : I8 f) (n : Nat) (hn : n ≤ 255) (w : World) (hE : Env w) :
    Calls Tryz.prog 5 #[.agg #[.int .i8 a, .int .i8 b, .int .i8 c, .int .i8 d, .int .i8 e, .int .i8 f], .int .u8 n] w fun e' w' => e' = .returned (.bool true) ∧ Q w w' := by
  have HOF := Lib.hid (fun w hw => law_of a b c d e f ha hb hc hd he hf w hw)
  have en := ends_of ha hb hc hd he hf
  have b1 : B3 3 (half a b c) := half_b3 (by have := i8_abs ha; omega) (by have := i8_abs hb; omega) (by have := i8_abs hc; omega)
  have b2 : B3 3 (half (toX a b c d e f) e f) := half_b3 (by have := i8_abs en.hd; omega) (by have := i8_abs he; omega) (by have := i8_abs hf; omega)
  have esub := half_sub a b c (toX a b c d e f) e f
  have bsub : B3 3 ((half (toX a b c d e f) e f).sub (half a b c)) := by
    rw [esub]
    exact half_b3 (by have := i8_abs ha; have := i8_abs en.hd; omega) (by have := i8_abs hb; have := i8_abs he; omega) (by have := i8_abs hc; have := i8_abs hf; omega)
  have bsq : Bd 6 ((half (toX a b c d e f) e f).sub (half a b c)).sq := by
    rw [esub]
    exact half_sq_bd (by have := ha.1; have := ha.2; have := en.hd.1; have := en.hd.2; omega) (by have := hb.1; have := hb.2; have := he.1; have := he.2; omega) (by have := hc.1; have := hc.2; have := hf.1; have := hf.2; omega)
  have y1 := sq_le (a := toX a b c d e f - a) (by have := ha.1; have := ha.2; have := en.hd.1; have := en.hd.2; omega)
  have y2 := sq_le (a := e - b) (by have := hb.1; have := hb.2; have := he.1; have := he.2; omega)
  have y3 := sq_le (a := f - c) (by have := hc.1; have := hc.2; have := hf.1; have := hf.2; omega)
  obtain ⟨N, hN, hN2⟩ : ∃ N : Nat, ((half (toX a b c d e f) e f).sub (half a b c)).sq = Rat.divInt (N : Int) ((4 : Nat) : Int) ∧ N ≤ 195075 := by
    refine ⟨((toX a b c d e f - a) * (toX a b c d e f - a) + (e - b) * (e - b) + (f - c) * (f - c)).toNat, ?_, by omega⟩
    rw [esub, half_sq, Int.toNat_of_nonneg (by omega)]
  have hpos := ends_pos en
  have hne := en.ne
  generalize half a b c = P at *
  generalize half (toX a b c d e f) e f = R at *
  obtain ⟨u, hu⟩ : ∃ u, Rat.divInt ((n : Int) + 1) ((3 : Nat) : Int) = u := ⟨_, rfl⟩
  have hu' : u = Rat.divInt ((n + 1 : Nat) : Int) ((3 : Nat) : Int) := hu.symm
  have bu : Bd 3 u := by rw [hu']; exact bd_divInt (by decide) (by rw [Int.natAbs_natCast]; omega) (by decide)
  have up : 0 < u.num := by rw [hu']; exact divInt_num_pos (by omega) (by decide)
  obtain ⟨t1, t2, t3⟩ := rounds_facts bsq hpos hN hN2 (show 1 ≤ n + 1 by omega) (show n + 1 ≤ 256 by omega) hu'
  obtain ⟨C, hC⟩ : ∃ C, C = cei (aOf (R.sub P).sq * (1 / u)) (leftOf (R.sub P).sq) := ⟨_, rfl⟩
  have hC5 : C < 10 ^ 5 := by
    have := flo_lt t3
    rw [hC]; unfold cei; split <;> omega
  obtain ⟨c1, ⟨σ, hσ, hr⟩, hσ2⟩ := rounds_vals up hC t2
  obtain ⟨m1, m2⟩ := mult_bd (C := C) (k := n + 1) (by omega) (by omega) hu'
  obtain ⟨m3, m4⟩ := mult_bd (C := C - 1) (k := n + 1) (by omega) (by omega) hu'
  have eless : ((C - 1 : Nat) : Rat) * u = (C : Rat) * u - u := by
    have ec : ((C - 1 : Nat) : Rat) = (C : Rat) - 1 := by
      obtain ⟨G, rfl⟩ : ∃ G, C = G + 1 := ⟨C - 1, by omega⟩
      rw [Nat.add_sub_cancel, Rat.natCast_add]
      have : ((1 : Nat) : Rat) = 1 := rfl
      rw [this]; grind
    rw [ec]; grind
  rw [eless] at m3 m4
  have n0 : 0 ≤ ((C : Rat) * u).num := Rat.num_nonneg.2 (Rat.mul_nonneg (by exact_mod_cast Nat.zero_le C) (Rat.le_of_lt (rpos up)))
  have n1 : 0 ≤ ((C : Rat) * u - u).num := by
    rw [← eless]
    exact Rat.num_nonneg.2 (Rat.mul_nonneg (by exact_mod_cast Nat.zero_le _) (Rat.le_of_lt (rpos up)))
  have hnum := fun w hw => law_num ((n : Int) + 1) 3 (by decide) (by omega) (by decide) w hw
  rw [hu] at hnum
  have HN := Lib.hid hnum
  have HL := Lib.hid (fun w hw => true_Length (m := 3) (by decide) 1 60 180 mok_law P R b1 b2 (by decide) hne w hw bsub (bsq.mono (by decide)))
  have hrd := fun w hw => true_Round (m := 3) (by decide) 1 60 180 mok_law P R b1 b2 (by decide) hne w hw bsub (bsq.mono (by decide)) hpos u (show Bd 8 u from bu.mono (by decide)) up t2 t3
  rw [← hC] at hrd
  have HRD := Lib.hid hrd
  have hdv := fun w hw => rational_Div_bd ((C : Rat) * u) u m1 bu (by omega) (by decide) w hw
  rw [show (C : Rat) * u / u = (C : Rat) by have := pos_of_num up; grind, rstr_nat] at hdv
  have HD := Lib.hid hdv
  have HI := Lib.hid (fun w hw => rational_Int_nat C (by omega) w hw)
  have HSB := Lib.hid (fun w hw => rational_Sub_bd ((C : Rat) * u) u m1 bu (by decide) w hw)
  have HMA := Lib.hid (fun b t w hw hb => surd_Make_any ((C : Rat) * u) m1 (by decide) b t w hw hb)
  have HMB := Lib.hid (fun b t w hw hb => surd_Make_any ((C : Rat) * u - u) m3 (by decide) b t w hw hb)
  have HCA := Lib.hid (fun B1 B2 v1 v2 w hw h1 h2 => surd_Compare_num ((C : Rat) * u) _ _ m1 (by decide) (by decide) m2 n0 t1 σ hσ B1 B2 v1 v2 w hw h1 h2)
  have HCB := Lib.hid (fun B1 B2 v1 v2 w hw h1 h2 => surd_Compare_num ((C : Rat) * u - u) _ _ m3 (by decide) (by decide) m4 n1 t1 (-1) hσ2 B1 B2 v1 v2 w hw h1 h2)
  have hls : ∀ w B v, LenAt w B v (R.sub P).sq → Surd1 w B v (aOf (R.sub P).sq) (leftOf (R.sub P).sq) := fun w B v h => h.elim (fun h => absurd h.1 (pos_of_num hpos)) (fun h => h.2)
  have HLS := Lib.hid hls
  have wn := Go.IntWalk.i64_in (n : Int) (by omega)
  have wn1 := Go.IntWalk.i64_in ((n : Int) + 1) (by omega)
  have hn0 : (0 : Int) ≤ n := by omega
  clear ha hb hc hd he hf en b1 b2 esub bsub bsq y1 y2 y3 hN hN2 hne hpos hu hu' bu up t1 t2 t3 hC hC5 c1 hσ hσ2 m1 m2 m3 m4 eless n0 n1 hnum hrd hdv hls
  unfold VM at *
  generalize (R.sub P).sq = s1 at *
  generalize rstr ((C : Rat) * u - u) = LS at *
  generalize rstr ((C : Rat) * u) = NS at *
  generalize Lib.itoa (C : Int) = CS at *
  generalize rstr u = U at *
  generalize rstr P.x = X at *
  generalize rstr P.y = Y at *
  generalize rstr P.z = Z at *
  generalize rstr R.x = X' at *
  generalize rstr R.y = Y' at *
  generalize rstr R.z = Z' at *
  have hmax := max_five
  have hmax4 := max_four
  go_enter Tryz.func5, Tryz.ntmps5
  have hQ0 := Q.refl w
  go_wp2_with fail
  refine (HOF.out _ (hE.ofQ bt)).mono ?_
  rintro e w1 ⟨rfl, hq1⟩
  have hs1 : Q w w1 := Q.trans bt hq1
  have hQ1 : Q w w1 := Q.trans hQ0 hs1
  go_wp2_with fail
  refine (HN.out _ (hE.ofQ bt)).mono ?_
  rintro e w2 ⟨rfl, hq2⟩
  have hs2 : Q w1 w2 := Q.trans bt hq2
  have hQ2 : Q w w2 := Q.trans hQ1 hs2
  have BM := (Blk.new w1 [.int .i64 1, .int .i64 0, .int .i64 (-1), .string ⟨X.toArray⟩, .string ⟨Y.toArray⟩, .string ⟨Z.toArray⟩, .string ⟨X'.toArray⟩, .string ⟨Y'.toArray⟩, .string ⟨Z'.toArray⟩, .int .i64 60, .int .i64 180] 30).keep hq2 (by simp)
  replace m0 := BM.cell 0
  replace m1 := BM.cell 1
  replace m2 := BM.cell 2
  replace m3 := BM.cell 3
  replace m4 := BM.cell 4
  replace m5 := BM.cell 5
  replace m6 := BM.cell 6
  replace m7 := BM.cell 7
  replace m8 := BM.cell 8
  replace m9 := BM.cell 9
  replace m10 := BM.cell 10
  simp only [List.getElem?_cons_zero, List.getElem?_cons_succ] at m0 m1 m2 m3 m4 m5 m6 m7 m8 m9 m10
  replace lBM := BM.lt
  go_wp2_with fail
  refine (HRD.out _ (hE.ofQ bt)).mono ?_
  rintro e w3 ⟨rfl, hq3⟩
  have hs3 : Q w2 w3 := Q.trans bt hq3
  have hQ3 : Q w w3 := Q.trans hQ2 hs3
  replace BM := BM.keep hs3 BM.lt
  replace m0 := BM.cell 0
  replace m1 := BM.cell 1
  replace m2 := BM.cell 2
  replace m3 := BM.cell 3
  replace m4 := BM.cell 4
  replace m5 := BM.cell 5
  replace m6 := BM.cell 6
  replace m7 := BM.cell 7
  replace m8 := BM.cell 8
  replace m9 := BM.cell 9
  replace m10 := BM.cell 10
  simp only [List.getElem?_cons_zero, List.getElem?_cons_succ] at m0 m1 m2 m3 m4 m5 m6 m7 m8 m9 m10
  replace lBM := BM.lt
  go_wp2_with fail
  refine (HL.out _ (hE.ofQ bt)).mono ?_
  rintro e w4 ⟨v, rfl, hq4, l1⟩
  have hs4 : Q w3 w4 := Q.trans bt hq4
  have hQ4 : Q w w4 := Q.trans hQ3 hs4
  replace BM := BM.keep hs4 BM.lt
  replace m0 := BM.cell 0
  replace m1 := BM.cell 1
  replace m2 := BM.cell 2
  replace m3 := BM.cell 3
  replace m4 := BM.cell 4
  replace m5 := BM.cell 5
  replace m6 := BM.cell 6
  replace m7 := BM.cell 7
  replace m8 := BM.cell 8
  replace m9 := BM.cell 9
  replace m10 := BM.cell 10
  simp only [List.getElem?_cons_zero, List.getElem?_cons_succ] at m0 m1 m2 m3 m4 m5 m6 m7 m8 m9 m10
  replace lBM := BM.lt
  clear BM lBM m0 m1 m2 m3 m4 m5 m6 m7 m8 m9 m10
  have LV := Lib.hid (HLS.out _ _ _ l1)
  clear l1
  go_wp2_with fail
  refine (HD.out _ (hE.ofQ bt)).mono ?_
  rintro e w5 ⟨rfl, hq5⟩
  have hs5 : Q w4 w5 := Q.trans bt hq5
  have hQ5 : Q w w5 := Q.trans hQ4 hs5
  go_wp2_with fail
  refine (HI.out _ (hE.ofQ bt)).mono ?_
  rintro e w6 ⟨rfl, hq6⟩
  have hs6 : Q w5 w6 := Q.trans bt hq6
  have hQ6 : Q w w6 := Q.trans hQ5 hs6
  go_wp2_with fail
  refine (HSB.out _ (hE.ofQ bt)).mono ?_
  rintro e w7 ⟨rfl, hq7⟩
  have hs7 : Q w6 w7 := Q.trans bt hq7
  have hQ7 : Q w w7 := Q.trans hQ6 hs7
  have hQ4k : Q w4 w7 := Q.trans hs5 (Q.trans hs6 hs7)
  go_wp2_with fail
  refine (HMA.out _ _ _ (hE.ofQ bt) (Blk.new w7 [.string ⟨NS.toArray⟩, .string ⟨#[49]⟩] 59)).mono ?_
  rintro e w8 ⟨va, rfl, hq8, na⟩
  have hs8 : Q w7 w8 := Q.trans bt hq8
  have hQ8 : Q w w8 := Q.trans hQ7 hs8
  go_wp2_with fail
  refine (HMB.out _ _ _ (hE.ofQ bt) (Blk.new w8 [.string ⟨LS.toArray⟩, .string ⟨#[49]⟩] 59)).mono ?_
  rintro e w9 ⟨vb, rfl, hq9, nb⟩
  have hs9 : Q w8 w9 := Q.trans bt hq9
  have hQ9 : Q w w9 := Q.trans hQ8 hs9
  replace na := NumAt.keep na hs9
  have hQ49 : Q w4 w9 := Q.trans hQ4k (Q.trans hs8 hs9)
  go_wp2_with fail
  refine (HCA.out _ _ _ _ _ (hE.q hQ9) na (surd1_keep LV.out hQ49)).mono ?_
  rintro e w10 ⟨rfl, hq10⟩
  have hs10 : Q w9 w10 := Q.trans bt hq10
  have hQ10 : Q w w10 := Q.trans hQ9 hs10
  replace na := NumAt.keep na hs10
  replace nb := NumAt.keep nb hs10
  go_wp2_with fail
  refine (HCB.out _ _ _ _ _ (hE.q hQ10) nb (surd1_keep LV.out (Q.trans hQ49 hs10))).mono ?_
  rintro e w11 ⟨rfl, hq11⟩
  have hs11 : Q w10 w11 := Q.trans bt hq11
  have hQ11 : Q w w11 := Q.trans hQ10 hs11
  replace na := NumAt.keep na hs11
  replace nb := NumAt.keep nb hs11
  clear na nb HOF HN HRD HL HD HI HSB HMA HMB HCA HCB HLS LV
  rcases hr with rfl | rfl
  all_goals
    go_wp2_with fail
    refine (awake32 _ (hE.q hQ11)).mono ?_
    rintro e' w12 ⟨rfl, hq12⟩
    have hQ12 : Q w w12 := Q.trans hQ11 hq12
    go_wp2
    go_ret
    exact ⟨rfl, hQ12⟩

theorem rounds32_walk (a b c d e f : Int) (ha : I8 a) (hb : I8 b) (hc : I8 c) (hd : I8 d) (he : I8 e) (hf : I8 f) (x : Int) (hx0 : 0 ≤ x) (hx : x ≤ 255) (w : World) (hE : Env w) :
    Calls Tryz.prog 5 #[.agg #[.int .i8 a, .int .i8 b, .int .i8 c, .int .i8 d, .int .i8 e, .int .i8 f], .int .u8 x] w fun e' w' => e' = .returned (.bool true) ∧ Q w w' := by
  obtain ⟨n, rfl⟩ := Int.eq_ofNat_of_zero_le hx0
  exact rounds32_law a b c d e f ha hb hc hd he hf n (by omega) w hE

end Go.Proofs.YthokehkdpmbeaaaGreatDoor
