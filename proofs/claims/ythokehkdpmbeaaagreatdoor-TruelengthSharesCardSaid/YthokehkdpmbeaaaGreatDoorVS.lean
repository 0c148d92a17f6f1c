/-
  Add of two terms of one class; the law TruelengthShares: its walk.
-/
import Derived.Test.YthokehkdpmbeaaaGreatDoorVQ
namespace Go.Proofs.YthokehkdpmbeaaaGreatDoor
open Go.RowKit Kp
open Go.Lib (decDigits)

/-- Two parts of one root are one term. -/
theorem sum_parts {x y t c1 c2 : Rat} {l m : Nat} (px : 0 < x.num) (py : 0 < y.num) (hl : 0 < l) (hm : 0 < m) (p1 : 0 < c1.num) (p2 : 0 < c2.num) (h1 : x * x * (l : Rat) = t * (c1 * c1)) (h2 : y * y * (m : Rat) = t * (c2 * c2)) (hc : c1 + c2 = 1) :
    ∃ z n, addC [(x, l)] (y, m) = [(z, n)] ∧ z * z * (n : Rat) = t ∧ ((z = x * (1 / c1) ∧ n = l) ∨ (z = y * (1 / c2) ∧ n = m)) := by
  have hx := pos_of_num px
  have hy := pos_of_num py
  have h1c := pos_of_num p1
  have h2c := pos_of_num p2
  have hl0 := nat_ne hl
  have hm0 := nat_ne hm
  have i1 : 0 < (x * (1 / c1)).num := num_pos_mul px (inv_pos c1 p1)
  have i2 : 0 < (y * (1 / c2)).num := num_pos_mul py (inv_pos c2 p2)
  have j1 := pos_of_num i1
  have j2 := pos_of_num i2
  have n1 : 0 ≤ ((x * (1 / c1)) / (y * (1 / c2))).num := quot_nonneg (by omega) i2
  have n2 : 0 ≤ ((y * (1 / c2)) / (x * (1 / c1))).num := quot_nonneg (by omega) i1
  have k1 : (x * (1 / c1)) * (x * (1 / c1)) * (l : Rat) = t := by grind
  have k2 : (y * (1 / c2)) * (y * (1 / c2)) * (m : Rat) = t := by grind
  have e1 : x = x * (1 / c1) * c1 := by grind
  have e2 : y = y * (1 / c2) * c2 := by grind
  obtain ⟨u, hu⟩ : ∃ u, x * (1 / c1) = u := ⟨_, rfl⟩
  obtain ⟨v, hv⟩ : ∃ v, y * (1 / c2) = v := ⟨_, rfl⟩
  rw [hu] at e1 k1 j1 n1 n2 ⊢
  rw [hv] at e2 k2 j2 n1 n2 ⊢
  clear hu hv i1 i2
  have q1 : (m : Rat) / (l : Rat) = (u / v) * (u / v) := by
    have : u * u * (l : Rat) = v * v * (m : Rat) := by rw [k1, k2]
    clear k1 k2 h1 h2 hc e1 e2
    grind
  have q2 : (l : Rat) / (m : Rat) = (v / u) * (v / u) := by
    have : u * u * (l : Rat) = v * v * (m : Rat) := by rw [k1, k2]
    clear k1 k2 h1 h2 hc e1 e2
    grind
  by_cases hml : m < l
  · refine ⟨v, m, ?_, k2, .inr ⟨rfl, rfl⟩⟩
    unfold addC plusC
    rw [q1, if_pos (isSq_self n1).1, if_pos hml]
    simp only
    rw [q2, (isSq_self n2).2, e1, e2, show v * c2 + u * c1 * (v / u) = v * (c1 + c2) by grind, hc, Rat.mul_one]
  · refine ⟨u, l, ?_, k1, .inl ⟨rfl, rfl⟩⟩
    unfold addC plusC
    rw [q1, if_pos (isSq_self n1).1, if_neg hml]
    simp only
    rw [(isSq_self n1).2, e1, e2, show u * c1 + v * c2 * (u / v) = u * (c1 + c2) by grind, hc, Rat.mul_one]

set_option maxRecDepth 100000 in
set_option maxHeartbeats 2000000 in
/-- Add of two terms that are one class. -/
theorem surd_Add_one (x y z : Rat) (l m n : Nat) (hx : Term1 x l) (hy : Term1 y m) (bx : Bd 20 x) (bY : Bd 20 y) (bl : l < 10 ^ 16) (bm : m < 10 ^ 16) (hz : addC [(x, l)] (y, m) = [(z, n)]) (bz : Bd 50 z) (z0 : z ≠ 0) (hn : 0 < n) (bn : n < 10 ^ 16)
    (B1 B2 : Nat) (v1 v2 : Value) (w : World) (hE : Env w) (h1 : Surd1 w B1 v1 x l) (h2 : Surd1 w B2 v2 y m) :
    Calls Tryz.prog 21 #[v1, v2] w fun e w' => ∃ v', e = .returned (.tuple #[v', .int .i64 0]) ∧ Q w w' ∧ Surd1 w' w.heap.size v' z n := by
  have HB := Lib.hid (surd_both_one x y l m hx hy B1 B2 v1 v2 w hE h1 h2)
  have l0 := hx.norm.1
  have m0 := hy.norm.1
  have h40 : ∀ n : Nat, n < 10 ^ 16 → Bd 40 (n : Rat) := fun n hn => ⟨by rw [Rat.num_natCast, Int.natAbs_natCast]; exact Nat.lt_of_lt_of_le hn (by decide), by rw [Rat.den_natCast]; exact by decide⟩
  obtain ⟨pl, ql⟩ := norm_parts hx.norm
  obtain ⟨pm, qm⟩ := norm_parts hy.norm
  have hcls : clsT [(x, (l : Rat)), (y, (m : Rat))] = [(z, n)] := by
    rw [← hz]
    unfold clsT
    simp only [List.foldl_cons, List.foldl_nil]
    rw [pl, ql, pm, qm, Rat.mul_one, Rat.mul_one]; rfl
  have hcls1 : clsT [(x, (l : Rat))] = [(x, l)] := by
    unfold clsT
    simp only [List.foldl_cons, List.foldl_nil]
    rw [pl, ql, Rat.mul_one]; rfl
  have cb1 : CB (x, l) := ⟨bx.mono (by decide), l0, Nat.lt_of_lt_of_le bl (by decide)⟩
  have cb2 : CB (y, m) := ⟨bY.mono (by decide), m0, Nat.lt_of_lt_of_le bm (by decide)⟩
  have vt : ∀ t ∈ [(x, (l : Rat)), (y, (m : Rat))], VT t := by
    intro t ht
    rw [List.mem_cons, List.mem_singleton] at ht
    rcases ht with rfl | rfl
    · exact ⟨hx.ne, bx.mono (by decide), by rw [Rat.num_natCast]; omega, h40 l bl, by rw [pl, ql, Rat.mul_one]; exact cb1⟩
    · exact ⟨hy.ne, bY.mono (by decide), by rw [Rat.num_natCast]; omega, h40 m bm, by rw [pm, qm, Rat.mul_one]; exact cb2⟩
  have hpre : ∀ k, k ≤ [(x, (l : Rat)), (y, (m : Rat))].length → ∀ c ∈ clsT ([(x, (l : Rat)), (y, (m : Rat))].take k), CB c := by
    intro k hk
    rcases (show k = 0 ∨ k = 1 ∨ k = 2 by simp at hk; omega) with rfl | rfl | rfl
    · intro c hc; simp [clsT] at hc
    · rw [show [(x, (l : Rat)), (y, (m : Rat))].take 1 = [(x, (l : Rat))] from rfl, hcls1]
      intro c hc; rw [List.mem_singleton] at hc; subst hc; exact cb1
    · rw [show [(x, (l : Rat)), (y, (m : Rat))].take 2 = [(x, (l : Rat)), (y, (m : Rat))] from rfl, hcls]
      intro c hc
      rw [List.mem_singleton] at hc; subst hc
      exact ⟨bz.mono (by decide), hn, Nat.lt_of_lt_of_le bn (by decide)⟩
  have hlm : ∀ c ∈ clsT [(x, (l : Rat)), (y, (m : Rat))], longV c.1 ≤ 60 ∧ longV (c.2 : Rat) ≤ 40 := by
    rw [hcls]
    intro c hc
    rw [List.mem_singleton] at hc; subst hc
    exact ⟨by have := longV_bd bz (by decide); show longV z ≤ 60; omega, longV_bd (h40 n bn) (by decide)⟩
  have hout : outC [(z, n)] = [(z, n)] := by unfold outC; simp [z0]
  have hsrt : Sorts (outC (clsT [(x, (l : Rat)), (y, (m : Rat))])) [(z, n)] := by
    rw [hcls, hout]
    exact sorts_two [(z, n)] (fun c hc => by rw [List.mem_singleton] at hc; subst hc; exact Nat.lt_of_lt_of_le bn (by decide)) (by simp)
  have hmk := fun v w hw hs => surd_Make_list [(x, (l : Rat)), (y, (m : Rat))] vt hpre (by simp) hlm [(z, n)] (by rw [hcls, hout]) hsrt v w hw hs
  rw [show [(x, (l : Rat)), (y, (m : Rat))].map ofT = [ofC (x, l), ofC (y, m)] by simp [ofT, ofC, rstr_nat]] at hmk
  have HMK := Lib.hid hmk
  have HCC := Lib.hid (fun v1 v2 b t w hb s1 s2 => surd_Concat [ofC (x, l)] [ofC (y, m)] (by simp) (by simp) (by simp) (by simp) v1 v2 b t w hb s1 s2)
  have r1 : Hid (w.ownsRow B1 59 2 v1 [ofC (x, l)].length (rowS [ofC (x, l)])) := Lib.hid h1
  have r2 : Hid (w.ownsRow B2 59 2 v2 [ofC (y, m)].length (rowS [ofC (y, m)])) := Lib.hid h2
  unfold Surd1
  obtain ⟨g1, c1, rfl, -, -⟩ := World.ownsRow.form h1 (by omega)
  obtain ⟨g2, c2, rfl, -, -⟩ := World.ownsRow.form h2 (by omega)
  clear hx hy bx bY bl bm hz bz z0 hn bn l0 m0 h40 pl ql pm qm hcls hcls1 cb1 cb2 vt hpre hlm hout hsrt hmk h1 h2
  have hP3 : rowS ([(z, n)].map ofC) = [.string ⟨(rstr z).toArray⟩, .string ⟨(Lib.itoa (n : Int)).toArray⟩] := rfl
  rw [hP3] at HMK
  clear hP3
  generalize rstr z = ZS at *
  generalize Lib.itoa (n : Int) = NS at *
  generalize ofC (x, l) = P1 at *
  generalize ofC (y, m) = P2 at *
  go_enter Tryz.func21, Tryz.ntmps21
  go_wp2_with fail
  refine HB.out.mono ?_
  rintro e w1 ⟨rfl, hq1⟩
  go_wp2_with fail
  have hb := Blk.new w1 [.slice (some ⟨g1, 0, none⟩) 1 c1, .slice (some ⟨g2, 0, none⟩) 1 c2] 40
  have hqa := hq1.alloc hq1.size (Obj.cells [.slice (some ⟨g1, 0, none⟩) 1 c1, .slice (some ⟨g2, 0, none⟩) 1 c2].toArray 40)
  refine (HCC.out _ _ _ _ _ hb (TSl.of_row (ownsRow_keep r1.out hqa)) (TSl.of_row (ownsRow_keep r2.out hqa))).mono ?_
  rintro e w3 ⟨v4, rfl, hq3, hr4⟩
  have hQ3 := Q.trans hqa hq3
  have R4 := Lib.hid hr4
  obtain ⟨g4, c4, rfl, -, -⟩ := hr4.form (by simp)
  clear hr4
  go_wp2_with fail
  refine (HMK.out _ _ (hE.q hQ3) (TSl.of_row R4.out)).mono ?_
  rintro e w4 ⟨v5, rfl, hq4, hr5⟩
  have hQ4 := Q.trans hQ3 hq4
  have HR5 := Lib.hid hr5
  clear hr5
  go_wp2
  go_ret2
  exact ⟨_, rfl, hQ4, Joins.ownsRow_le HR5.out hQ3.size⟩

/-- Sixteenths. -/
def sixt (k : Nat) : Rat := Rat.divInt (k : Int) ((16 : Nat) : Int)
theorem sixt_is (k : Nat) : sixt k = (k : Rat) / 16 := by
  unfold sixt
  rw [Rat.divInt_eq_div, Rat.intCast_natCast, Rat.intCast_natCast]; rfl
theorem sixt_bd {k : Nat} (h : k ≤ 16) : Bd 2 (sixt k) := bd_divInt (by decide) (by rw [Int.natAbs_natCast]; omega) (by decide)
theorem sixt_den (k : Nat) : (sixt k).den ≤ 16 := divInt_den_le (by decide)
theorem sixt_pos {k : Nat} (h : 0 < k) : 0 < (sixt k).num := divInt_num_pos (by omega) (by decide)
theorem sixt_zero : sixt 0 = 0 := by rw [sixt_is, show ((0 : Nat) : Rat) = 0 from rfl]; grind
theorem sixt_full : sixt 16 = 1 := by rw [sixt_is, show ((16 : Nat) : Rat) = 16 from rfl]; grind
theorem sixt_sum {k : Nat} (h : k ≤ 16) : sixt k + sixt (16 - k) = 1 := by
  rw [sixt_is, sixt_is]
  have e : (((k + (16 - k) : Nat)) : Rat) = ((16 : Nat) : Rat) := by rw [show k + (16 - k) = 16 by omega]
  rw [Rat.natCast_add, show ((16 : Nat) : Rat) = 16 from rfl] at e
  grind
theorem sixt_le {k : Nat} (h : k ≤ 16) : (sixt k).num ≤ (sixt k).den := by
  have h1 : sixt k ≤ 1 := by
    have := sixt_sum h
    have h2 : 0 ≤ sixt (16 - k) := Rat.num_nonneg.1 (by
      rcases Nat.eq_zero_or_pos (16 - k) with e | e
      · rw [e, sixt_zero]; decide
      · exact Int.le_of_lt (sixt_pos e))
    grind
  have h3 := Rat.mul_le_mul_of_nonneg_right h1 (show (0 : Rat) ≤ ((sixt k).den : Rat) by exact_mod_cast Nat.zero_le _)
  rw [mul_den_num, Rat.one_mul] at h3
  exact_mod_cast h3

/-- The numbers of a share of a length. -/
theorem share_facts {s : Rat} (bs : Bd 6 s) (sp : 0 < s.num) {N : Nat} (hs : s = Rat.divInt (N : Int) ((4 : Nat) : Int)) (hN : N ≤ 195075) {k : Nat} (k1 : 1 ≤ k) (k2 : k ≤ 16) :
    PTerm (aOf s) (leftOf s) ∧ PTerm (aOf s * sixt k) (leftOf s) ∧ Bd 8 (s * (sixt k * sixt k)) ∧ 0 < (s * (sixt k * sixt k)).num ∧ PTerm (aOf (s * (sixt k * sixt k))) (leftOf (s * (sixt k * sixt k))) ∧
    PTerm (aOf (s * (sixt k * sixt k)) * (1 / sixt k)) (leftOf (s * (sixt k * sixt k))) := by
  have sd : s.den ≤ 4 := by rw [hs]; exact divInt_den_le (by decide)
  have l16 : ∀ {t : Rat}, Bd 8 t → 0 < t.num → leftOf t < 10 ^ 16 := fun bt tp => by
    have h := (show Bd 16 (leftOf _ : Rat) from lOf_bd bt tp (by decide)).1
    rw [Rat.num_natCast, Int.natAbs_natCast] at h
    exact h
  have bk := sixt_bd k2
  have pk := sixt_pos (show 0 < k by omega)
  have dk := sixt_den k
  have pa := aOf_pos bs sp
  have ad : (aOf s).den ≤ 4 := Nat.le_trans (divInt_den_le s.den_pos) sd
  have eq2 : s * (sixt k * sixt k) = Rat.divInt ((N * (k * k) : Nat) : Int) ((1024 : Nat) : Int) := by
    rw [sixt_is, hs, Rat.divInt_eq_div, Rat.divInt_eq_div, Rat.intCast_natCast, Rat.intCast_natCast, Rat.intCast_natCast, Rat.intCast_natCast, Rat.natCast_mul, Rat.natCast_mul, show ((4 : Nat) : Rat) = 4 from rfl, show ((1024 : Nat) : Rat) = 1024 from rfl]
    grind
  have b8 : Bd 8 (s * (sixt k * sixt k)) := by
    rw [eq2]
    have h1 : k * k ≤ 16 * 16 := Nat.mul_le_mul k2 k2
    have h2 : N * (k * k) ≤ 195075 * (16 * 16) := Nat.mul_le_mul hN h1
    exact bd_divInt (by decide) (by rw [Int.natAbs_natCast]; omega) (by decide)
  have d2 : (s * (sixt k * sixt k)).den ≤ 1024 := by rw [eq2]; exact divInt_den_le (by decide)
  have p2 : 0 < (s * (sixt k * sixt k)).num := num_pos_mul sp (num_pos_mul pk pk)
  have mk : ∀ {t : Rat}, Bd 8 t → 0 < t.num → t.den ≤ 1024 → PTerm (aOf t) (leftOf t) := fun {t} bt tp td =>
    ⟨term_of (bt.mono (by decide)) tp, aOf_pos bt tp, (aOf_bd bt tp).mono (by decide), by
      have : (aOf t).den ≤ 1024 := Nat.le_trans (divInt_den_le t.den_pos) td
      exact Nat.lt_of_le_of_lt this (by decide), l16 bt tp⟩
  have mul : ∀ {t c : Rat}, PTerm (aOf t) (leftOf t) → Bd 16 (aOf t) → (aOf t).den ≤ 1024 → Bd 2 c → 0 < c.num → PTerm (aOf t * c) (leftOf t) := fun {t c} ht bt td bc pc => by
    have b : Bd 18 (aOf t * c) := bt.mul bc
    have p := num_pos_mul ht.pos pc
    refine ⟨⟨b.rlim (by decide), pos_of_num p, by have := longV_bd b (by decide); omega, ht.t.norm, ht.t.c40⟩, p, b.mono (by decide), ?_, ht.bl⟩
    have h1 := den_mul_le (aOf t) c
    have h2 := Nat.mul_le_mul td (Nat.le_of_lt bc.2)
    omega
  have t1 := mk (bs.mono (by decide)) sp (by omega)
  have t2 := mk b8 p2 d2
  have ad2 : (aOf (s * (sixt k * sixt k))).den ≤ 1024 := Nat.le_trans (divInt_den_le (Rat.den_pos _)) d2
  exact ⟨t1, mul t1 ((aOf_bd bs sp).mono (by decide)) (by omega) bk pk, b8, p2, t2, mul t2 (aOf_bd b8 p2) ad2 (inv_bd bk pk) (inv_pos _ pk)⟩

theorem P3.share_sub (P R : P3) (c d : Rat) (h : c + d = 1) : (P.add ((R.sub P).scale c)).sub P = (R.sub P).scale c ∧ R.sub (P.add ((R.sub P).scale c)) = (R.sub P).scale d := by
  unfold P3.sub P3.add P3.scale
  simp only [P3.mk.injEq]
  exact ⟨⟨by grind, by grind, by grind⟩, by grind, by grind, by grind⟩
theorem P3.scale_sq (v : P3) (c : Rat) : (v.scale c).sq = v.sq * (c * c) := by
  unfold P3.scale P3.sq; grind
theorem P3.scale_zero (P R : P3) : P.add ((R.sub P).scale 0) = P := by
  cases P
  unfold P3.sub P3.add P3.scale
  simp only [P3.mk.injEq]
  exact ⟨by grind, by grind, by grind⟩
theorem P3.scale_full (P R : P3) : P.add ((R.sub P).scale 1) = R := by
  cases P; cases R
  unfold P3.sub P3.add P3.scale
  simp only [P3.mk.injEq]
  exact ⟨by grind, by grind, by grind⟩
theorem P3.sq_self (P : P3) : (P.sub P).sq = 0 := by
  unfold P3.sub P3.sq; grind
theorem b3_up {n m : Nat} {v : P3} (h : B3 n v) (hm : n ≤ m) : B3 m v := ⟨h.1.mono hm, h.2.1.mono hm, h.2.2.mono hm⟩
theorem P3.scale_b3 {n m : Nat} {v : P3} {c : Rat} (h : B3 n v) (hc : Bd m c) : B3 (n + m) (v.scale c) := ⟨h.1.mul hc, h.2.1.mul hc, h.2.2.mul hc⟩
theorem P3.add_b3 {n m : Nat} {u v : P3} (h : B3 n u) (hv : B3 m v) : B3 (n + m + 1) (u.add v) := ⟨h.1.add hv.1, h.2.1.add hv.2.1, h.2.2.add hv.2.2⟩

/-- Three cells of a row are set. -/
def set3L (x y z : Value) (cs : List Value) : List Value := ((cs.set 0 x).set 1 y).set 2 z
theorem set3L_idem (x y z : Value) (cs : List Value) : set3L x y z (set3L x y z cs) = set3L x y z cs := by
  rcases cs with _ | ⟨_, _ | ⟨_, _ | ⟨_, r⟩⟩⟩ <;> rfl
/-- Worlds that go on, where a block that was made since may have its first three cells set. -/
def spR (b : Nat) (x y z : Value) : Rel where
  r := fun a c => b ≤ a.heap.size → Below b a c ∧ ∀ g cs t, b ≤ g → Blk a g cs t → Blk c g cs t ∨ Blk c g (set3L x y z cs) t
  refl := fun w _ => ⟨Below.refl _ _, fun _ _ _ _ h => .inl h⟩
  trans := fun {a c d} h k hb => by
    obtain ⟨h1, h2⟩ := h hb
    obtain ⟨k1, k2⟩ := k (Nat.le_trans hb h1.size)
    refine ⟨Below.trans h1 k1, fun g cs t hg hB => ?_⟩
    rcases h2 g cs t hg hB with h3 | h3
    · exact k2 g cs t hg h3
    · rcases k2 g _ t hg h3 with h4 | h4
      · exact .inr h4
      · rw [set3L_idem] at h4; exact .inr h4
theorem sp_q {b : Nat} {x y z : Value} {a c : World} (h : Q a c) : (spR b x y z).r a c := fun hb => ⟨h.mono hb, fun _ _ _ _ hB => .inl (hB.keep h hB.lt)⟩
theorem sp_alloc {b : Nat} {x y z : Value} (w : World) (o : Obj) : (spR b x y z).r w (w.alloc o) := fun hb => ⟨(Below.refl _ _).alloc hb _, fun _ _ _ _ hB => .inl (hB.alloc _)⟩
theorem sp_set {b g : Nat} {x y z : Value} (hg : b ≤ g) (w : World) : (spR b x y z).r w (((w.setCell ⟨g, 0, none⟩ x).setCell ⟨g, 1, none⟩ y).setCell ⟨g, 2, none⟩ z) := fun _ =>
  ⟨(((Below.refl _ _).setCell (p := ⟨g, 0, none⟩) hg _).setCell (p := ⟨g, 1, none⟩) hg _).setCell (p := ⟨g, 2, none⟩) hg _, fun g' cs t _ hB => by
    by_cases h : g = g'
    · subst h; exact .inr (((hB.set 0 x).set 1 y).set 2 z)
    · exact .inl (hB.setOther3 h)⟩
theorem sp_call {b : Nat} {x y z v : Value} {P : Program} {g : FuncId} {args : Array Value} {w' : World} (h : Calls P g args w' fun e w'' => e = .returned v ∧ Q w' w'') : Calls P g args w' fun e w'' => e = .returned v ∧ (spR b x y z).r w' w'' :=
  h.mono fun _ _ ⟨h1, h2⟩ => ⟨h1, sp_q h2⟩

/-- What lies above a block does not see the block's cells set. -/
theorem LenAt.setLow {w : World} {B : Nat} {v : Value} {s : Rat} (h : LenAt w B v s) {g : Nat} (hg : g < B) (i : Nat) (x : Value) : LenAt (w.setCell ⟨g, i, none⟩ x) B v s := by
  rcases h with h | ⟨h0, h⟩
  · exact .inl h
  · refine .inr ⟨h0, h.1, h.2.elim Or.inl ?_⟩
    rintro ⟨g', cap, cur, hv, hg', hc, r⟩
    refine Or.inr ⟨g', cap, cur, hv, hg', ?_, r⟩
    have : ¬ g = g' := by omega
    simpa [World.setCell, Array.getElem?_modify, this] using hc

set_option maxRecDepth 100000 in
set_option maxHeartbeats 8000000 in
theorem shares32_law (a b c d e f : Int) (ha : I8 a) (hb : I8 b) (hc : I8 c) (hd : I8 d) (he : I8 e) (hf : I8 f) (n : Nat) (hn : n ≤ 255) (w : World) (hE : Env w) :
    Calls Tryz.prog 4 #[.agg #[.int .i8 a, .int .i8 b, .int .i8 c, .int .i8 d, .int .i8 e, .int .i8 f], .int .u8 n] w fun e' w' => e' = .returned (.bool true) ∧ Q w w' := by
  have HOF := Lib.hid (fun w hw => law_of a b c d e f ha hb hc hd he hf w hw)
  have en := ends_of ha hb hc hd he hf
  have b1 : B3 3 (half a b c) := half_b3 (by have := i8_abs ha; omega) (by have := i8_abs hb; omega) (by have := i8_abs hc; omega)
  have b2 : B3 3 (half (toX a b c d e f) e f) := half_b3 (by have := i8_abs en.hd; omega) (by have := i8_abs he; omega) (by have := i8_abs hf; omega)
  have esub := half_sub a b c (toX a b c d e f) e f
  have bsub : B3 3 ((half (toX a b c d e f) e f).sub (half a b c)) := by
    rw [esub]
    exact half_b3 (by have := i8_abs ha; have := i8_abs en.hd; omega) (by have := i8_abs hb; have := i8_abs he; omega) (by have := i8_abs hc; have := i8_abs hf; omega)
  have bsq : Bd 6 ((half (toX a b c d e f) e f).sub (half a b c)).sq := by
    rw [esub]
    exact half_sq_bd (by have := ha.1; have := ha.2; have := en.hd.1; have := en.hd.2; omega) (by have := hb.1; have := hb.2; have := he.1; have := he.2; omega) (by have := hc.1; have := hc.2; have := hf.1; have := hf.2; omega)
  have y1 := sq_le (a := toX a b c d e f - a) (by have := ha.1; have := ha.2; have := en.hd.1; have := en.hd.2; omega)
  have y2 := sq_le (a := e - b) (by have := hb.1; have := hb.2; have := he.1; have := he.2; omega)
  have y3 := sq_le (a := f - c) (by have := hc.1; have := hc.2; have := hf.1; have := hf.2; omega)
  obtain ⟨N, hN, hN2⟩ : ∃ N : Nat, ((half (toX a b c d e f) e f).sub (half a b c)).sq = Rat.divInt (N : Int) ((4 : Nat) : Int) ∧ N ≤ 195075 := by
    refine ⟨((toX a b c d e f - a) * (toX a b c d e f - a) + (e - b) * (e - b) + (f - c) * (f - c)).toNat, ?_, by omega⟩
    rw [esub, half_sq, Int.toNat_of_nonneg (by omega)]
  have hpos := ends_pos en
  have hne := en.ne
  generalize half a b c = P at *
  generalize half (toX a b c d e f) e f = R at *
  clear ha hb hc hd he hf en esub y1 y2 y3
  have ht : (n : Int).tmod 17 = ((n % 17 : Nat) : Int) := by
    rw [Int.tmod_eq_emod_of_nonneg (by omega)]; rfl
  have hk16 : n % 17 ≤ 16 := by omega
  generalize n % 17 = k at *
  have bk := sixt_bd hk16
  have sk0 : 0 ≤ (sixt k).num := by
    rcases Nat.eq_zero_or_pos k with h | h
    · rw [h, sixt_zero]; decide
    · exact Int.le_of_lt (sixt_pos h)
  have hsum := sixt_sum hk16
  obtain ⟨q1, q2⟩ := P3.share_sub P R (sixt k) (sixt (16 - k)) hsum
  have bq : B3 9 (P.add ((R.sub P).scale (sixt k))) := P3.add_b3 b1 (P3.scale_b3 bsub bk)
  have bs1 := P3.scale_b3 bsub bk
  have bs2 := P3.scale_b3 bsub (sixt_bd (show 16 - k ≤ 16 by omega))
  have HN := Lib.hid (fun w hw => law_num (k : Int) 16 (by decide) (by omega) (by decide) w hw)
  have HA := Lib.hid (fun w hw => true_Along (m := 3) 1 60 180 mok_law P R b1 b2 (by decide) hne bsub (sixt k) (show Bd 8 (sixt k) from bk.mono (by decide)) sk0 (sixt_le hk16) (by decide) w hw)
  have ha0 := fun w hw => true_Along (m := 3) 1 60 180 mok_law P R b1 b2 (by decide) hne bsub 0 (show Bd 8 0 from bd_zero (by decide)) (by decide) (by decide) (by decide) w hw
  rw [P3.scale_zero, rstr_zero] at ha0
  have ha1 := fun w hw => true_Along (m := 3) 1 60 180 mok_law P R b1 b2 (by decide) hne bsub 1 small_one (by decide) (by decide) (by decide) w hw
  rw [P3.scale_full, rstr_one] at ha1
  have HA0 := Lib.hid ha0
  have HA1 := Lib.hid ha1
  have HL := Lib.hid (fun w hw => true_Length (m := 3) (by decide) 1 60 180 mok_law P R b1 b2 (by decide) hne w hw bsub (bsq.mono (by decide)))
  have hk0 : k = 0 → rstr (P.add ((R.sub P).scale (sixt k))).x = rstr P.x ∧ rstr (P.add ((R.sub P).scale (sixt k))).y = rstr P.y ∧ rstr (P.add ((R.sub P).scale (sixt k))).z = rstr P.z := fun h => by
    rw [h, sixt_zero, P3.scale_zero]; exact ⟨rfl, rfl, rfl⟩
  have hls : ∀ w B v t, 0 < t.num → LenAt w B v t → Surd1 w B v (aOf t) (leftOf t) := fun w B v t h0 h => h.elim (fun h => absurd h.1 (pos_of_num h0)) (fun h => h.2)
  have HLS := Lib.hid hls
  have hown : 1 ≤ k → (∀ w, Env w → Calls Tryz.prog 12 #[VM 1 60 180 P (P.add ((R.sub P).scale (sixt k)))] w fun e w' => ∃ v, e = .returned (.tuple #[v, .int .i64 0]) ∧ Q w w' ∧ LenAt w' w.heap.size v ((R.sub P).sq * (sixt k * sixt k))) ∧
      (∀ B v w, Env w → Surd1 w B v (aOf (R.sub P).sq) (leftOf (R.sub P).sq) → Calls Tryz.prog 19 #[v, .string ⟨(rstr (sixt k)).toArray⟩] w fun e w' => ∃ v', e = .returned (.tuple #[v', .int .i64 0]) ∧ Q w w' ∧ Surd1 w' w.heap.size v' (aOf (R.sub P).sq * sixt k) (leftOf (R.sub P).sq)) ∧
      (∀ B1 B2 v1 v2 w, Env w → LenAt w B1 v1 ((R.sub P).sq * (sixt k * sixt k)) → Surd1 w B2 v2 (aOf (R.sub P).sq * sixt k) (leftOf (R.sub P).sq) → Calls Tryz.prog 20 #[v1, v2] w fun e w' => e = .returned (.tuple #[.int .i64 0, .int .i64 0]) ∧ Q w w') := fun h1 => by
    obtain ⟨t1, t2, t3, t4, t5, t6⟩ := share_facts bsq hpos hN hN2 h1 hk16
    refine ⟨fun w hw => ?_, fun B v w hw hv => ?_, fun B1 B2 v1 v2 w hw l1 h2 => ?_⟩
    · have hnq : P ≠ P.add ((R.sub P).scale (sixt k)) := fun h => by
        have h2 := P3.sq_self P
        rw [show P.sub P = (R.sub P).scale (sixt k) from (congrArg (fun q => P3.sub q P) h).trans q1, P3.scale_sq] at h2
        rw [h2] at t4
        exact absurd t4 (by decide)
      have h := true_Length (m := 5) (by decide) 1 60 180 mok_law P (P.add ((R.sub P).scale (sixt k))) (b3_up b1 (by decide)) bq (by decide) hnq w hw (by rw [q1]; exact bs1) (by rw [q1, P3.scale_sq]; exact t3.mono (by decide))
      rw [q1, P3.scale_sq] at h
      exact h
    · exact surd_Scale_one _ _ _ t1.t (t1.bx.mono (by decide)) bk (by decide) (pos_of_num (sixt_pos h1)) (Nat.lt_of_lt_of_le t1.bl (by decide)) B v w hw hv
    · exact surd_Compare_val _ _ _ _ t5 t2 0 (.inr (.inl ⟨by
        rw [root_sq _ t4, show aOf (R.sub P).sq * sixt k * (aOf (R.sub P).sq * sixt k) * (leftOf (R.sub P).sq : Rat) = aOf (R.sub P).sq * aOf (R.sub P).sq * (leftOf (R.sub P).sq : Rat) * (sixt k * sixt k) by grind, root_sq _ hpos], rfl⟩)) B1 B2 v1 v2 w hw (hls _ _ _ _ t4 l1) h2
  have hrest : 1 ≤ k → k ≠ 16 → (∀ w, Env w → Calls Tryz.prog 12 #[VM 1 60 180 (P.add ((R.sub P).scale (sixt k))) R] w fun e w' => ∃ v, e = .returned (.tuple #[v, .int .i64 0]) ∧ Q w w' ∧ LenAt w' w.heap.size v ((R.sub P).sq * (sixt (16 - k) * sixt (16 - k)))) ∧
      ∃ z m, (∀ B1 B2 v1 v2 w, Env w → LenAt w B1 v1 ((R.sub P).sq * (sixt k * sixt k)) → LenAt w B2 v2 ((R.sub P).sq * (sixt (16 - k) * sixt (16 - k))) → Calls Tryz.prog 21 #[v1, v2] w fun e w' => ∃ v', e = .returned (.tuple #[v', .int .i64 0]) ∧ Q w w' ∧ Surd1 w' w.heap.size v' z m) ∧
      (∀ B1 B2 v1 v2 w, Env w → Surd1 w B1 v1 z m → Surd1 w B2 v2 (aOf (R.sub P).sq) (leftOf (R.sub P).sq) → Calls Tryz.prog 20 #[v1, v2] w fun e w' => e = .returned (.tuple #[.int .i64 0, .int .i64 0]) ∧ Q w w') := fun h1 h2 => by
    obtain ⟨t1, -, t3, t4, t5, t6⟩ := share_facts bsq hpos hN hN2 h1 hk16
    obtain ⟨-, -, r3, r4, r5, r6⟩ := share_facts bsq hpos hN hN2 (show 1 ≤ 16 - k by omega) (show 16 - k ≤ 16 by omega)
    obtain ⟨z, m, hz, hv, ho⟩ := sum_parts t5.pos r5.pos t5.t.norm.1 r5.t.norm.1 (sixt_pos h1) (sixt_pos (show 0 < 16 - k by omega)) (root_sq _ t4) (root_sq _ r4) hsum
    have hzp : PTerm z m := by
      rcases ho with ⟨rfl, rfl⟩ | ⟨rfl, rfl⟩
      · exact t6
      · exact r6
    refine ⟨fun w hw => ?_, z, m, fun B1 B2 v1 v2 w hw l1 l2 => ?_, fun B1 B2 v1 v2 w hw l1 l2 => ?_⟩
    · have hnq : P.add ((R.sub P).scale (sixt k)) ≠ R := fun h => by
        have h2 := P3.sq_self R
        rw [show R.sub R = (R.sub P).scale (sixt (16 - k)) from (congrArg (fun q => P3.sub R q) h).symm.trans q2, P3.scale_sq] at h2
        rw [h2] at r4
        exact absurd r4 (by decide)
      have h := true_Length (m := 5) (by decide) 1 60 180 mok_law (P.add ((R.sub P).scale (sixt k))) R bq (b3_up b2 (by decide)) (by decide) hnq w hw (by rw [q2]; exact bs2) (by rw [q2, P3.scale_sq]; exact r3.mono (by decide))
      rw [q2, P3.scale_sq] at h
      exact h
    · exact surd_Add_one _ _ z _ _ m t5.t r5.t t5.bx r5.bx t5.bl r5.bl hz (hzp.bx.mono (by decide)) hzp.t.ne hzp.t.norm.1 hzp.bl B1 B2 v1 v2 w hw (hls _ _ _ _ t4 l1) (hls _ _ _ _ r4 l2)
    · exact surd_Compare_val _ _ _ _ hzp t1 0 (.inr (.inl ⟨by rw [hv, root_sq _ hpos], rfl⟩)) B1 B2 v1 v2 w hw l1 l2
  have HK0 := Lib.hid hk0
  have HOWN := Lib.hid hown
  have HREST := Lib.hid hrest
  have hlm := fun w B v => hls w B v _ hpos
  have HLM := Lib.hid hlm
  clear b1 b2 bsub bsq hN hN2 hne bk sk0 hsum q1 q2 bq bs1 bs2 ha0 ha1 hk0 hls HLS hown hrest hlm hpos
  generalize (R.sub P).sq * (sixt k * sixt k) = s2 at *
  generalize (R.sub P).sq * (sixt (16 - k) * sixt (16 - k)) = s3 at *
  generalize aOf (R.sub P).sq * sixt k = x2 at *
  generalize (R.sub P).sq = s1 at *
  unfold sixt at *
  unfold VM V3 at *
  generalize rstr (Rat.divInt (k : Int) ((16 : Nat) : Int)) = U at *
  generalize P.add ((R.sub P).scale (Rat.divInt (k : Int) ((16 : Nat) : Int))) = T at *
  generalize rstr T.x = A1 at *
  generalize rstr T.y = A2 at *
  generalize rstr T.z = A3 at *
  generalize rstr P.x = X at *
  generalize rstr P.y = Y at *
  generalize rstr P.z = Z at *
  generalize rstr R.x = X' at *
  generalize rstr R.y = Y' at *
  generalize rstr R.z = Z' at *
  have hmax := max_three
  have hmax4 := max_four
  have wk := Go.IntWalk.i64_in (k : Int) (by omega)
  have wn := Go.IntWalk.i64_in (n : Int) (by omega)
  have hn0 : (0 : Int) ≤ n := by omega
  go_enter Tryz.func4, Tryz.ntmps4
  have hQ0 := Q.refl w
  go_wp2_with fail
  refine (HOF.out _ (hE.ofQ bt)).mono ?_
  rintro e w1 ⟨rfl, hq1⟩
  have hs1 : Q w w1 := Q.trans bt hq1
  have hQ1 : Q w w1 := Q.trans hQ0 hs1
  go_wp2_with fail
  obtain ⟨W0, hW0⟩ : ∃ W0, w1.alloc (.cells #[.int .i64 1, .int .i64 0, .int .i64 (-1), .string ⟨X.toArray⟩, .string ⟨Y.toArray⟩, .string ⟨Z.toArray⟩, .string ⟨X'.toArray⟩, .string ⟨Y'.toArray⟩, .string ⟨Z'.toArray⟩, .int .i64 60, .int .i64 180] 30) = W0 := ⟨_, rfl⟩
  have hq0 : Q w W0 := by rw [← hW0]; exact bt
  have BM : Blk W0 w1.heap.size [.int .i64 1, .int .i64 0, .int .i64 (-1), .string ⟨X.toArray⟩, .string ⟨Y.toArray⟩, .string ⟨Z.toArray⟩, .string ⟨X'.toArray⟩, .string ⟨Y'.toArray⟩, .string ⟨Z'.toArray⟩, .int .i64 60, .int .i64 180] 30 := by rw [← hW0]; exact Blk.new w1 _ _
  rw [hW0]
  clear hW0
  have d0 := BM.drew.cell 0
  have d1 := BM.drew.cell 1
  have d2 := BM.drew.cell 2
  have d3 := BM.drew.cell 3
  have d4 := BM.drew.cell 4
  have d5 := BM.drew.cell 5
  have d6 := BM.drew.cell 6
  have d7 := BM.drew.cell 7
  have d8 := BM.drew.cell 8
  have d9 := BM.drew.cell 9
  have d10 := BM.drew.cell 10
  simp only [List.getElem?_cons_zero, List.getElem?_cons_succ] at d0 d1 d2 d3 d4 d5 d6 d7 d8 d9 d10
  have hqd : Q W0 W0.drew := Below.drew (Q.refl W0)
  refine RE.wp_steadily (ρ := spR W0.drew.heap.size (.string ⟨A1.toArray⟩) (.string ⟨A2.toArray⟩) (.string ⟨A3.toArray⟩)) 10 (by kernel_rfl) (by kernel_rfl) rfl ?_
  refine RE.steadily_value (i := 0) (v := ?_) rfl rfl (by kernel_rfl) (by kernel_rfl) (fun _ _ _ h => h) (by rfl) ?_ ?_
  rotate_left
  · intro w' hq
    have hqq := (hq (Nat.le_refl _)).1
    have c0 := qcell hqq d0
    have c1 := qcell hqq d1
    have c2 := qcell hqq d2
    have c3 := qcell hqq d3
    have c4 := qcell hqq d4
    have c5 := qcell hqq d5
    have c6 := qcell hqq d6
    have c7 := qcell hqq d7
    have c8 := qcell hqq d8
    have c9 := qcell hqq d9
    have c10 := qcell hqq d10
    go_simp; try with_reducible rfl
  simp only [Act.put, List.setIfInBounds_toArray, List.set_cons_zero, List.set_cons_succ]
  refine RE.steadily_value (i := 1) (v := ?_) rfl rfl (by kernel_rfl) (by kernel_rfl) (fun _ _ _ h => h) (by rfl) ?_ ?_
  rotate_left
  · (intro w' hq; go_simp; try with_reducible rfl)
  simp only [Act.put, List.setIfInBounds_toArray, List.set_cons_zero, List.set_cons_succ]
  refine RE.steadily_call (i := 2) (v := _) rfl rfl (by kernel_rfl) (by kernel_rfl) (fun _ _ _ h => h) (by rfl) ?_ (fun w' hq => sp_call (HN.out w' (hE.q (Q.trans hq0 (Q.trans hqd (hq (Nat.le_refl _)).1))))) ?_
  · (intro w' hq; go_simp; try with_reducible rfl)
  simp only [Act.put, List.setIfInBounds_toArray, List.set_cons_zero, List.set_cons_succ]
  refine RE.steadily_call (i := 3) (v := _) rfl rfl (by kernel_rfl) (by kernel_rfl) (fun _ _ _ h => h) (by rfl) ?_ (fun w' hq => sp_call (HA.out w' (hE.q (Q.trans hq0 (Q.trans hqd (hq (Nat.le_refl _)).1))))) ?_
  · (intro w' hq; go_simp; try with_reducible rfl)
  simp only [Act.put, List.setIfInBounds_toArray, List.set_cons_zero, List.set_cons_succ]
  refine RE.steadily_value (i := 4) (v := ?_) rfl rfl (by kernel_rfl) (by kernel_rfl) (fun _ _ _ h => h) (by rfl) ?_ ?_
  rotate_left
  · (intro w' hq; go_simp; try with_reducible rfl)
  simp only [Act.put, List.setIfInBounds_toArray, List.set_cons_zero, List.set_cons_succ]
  refine RE.steadily_value (i := 5) (v := ?_) rfl rfl (by kernel_rfl) (by kernel_rfl) (fun _ _ _ h => h) (by rfl) ?_ ?_
  rotate_left
  · (intro w' hq; go_simp; try with_reducible rfl)
  simp only [Act.put, List.setIfInBounds_toArray, List.set_cons_zero, List.set_cons_succ]
  refine RE.steadily_value (i := 6) (v := ?_) rfl rfl (by kernel_rfl) (by kernel_rfl) (fun _ _ _ h => h) (by rfl) ?_ ?_
  rotate_left
  · (intro w' hq; go_simp; try with_reducible rfl)
  simp only [Act.put, List.setIfInBounds_toArray, List.set_cons_zero, List.set_cons_succ]
  refine RE.steadily_alloc (i := 7) (.cells #[.string ⟨#[]⟩, .string ⟨#[]⟩, .string ⟨#[]⟩] 28) rfl rfl (by kernel_rfl) (by rfl) ?_ (fun w' => sp_alloc w' _) (fun w2 hq2 => ?_)
  · (intro w' hq; go_simp; try with_reducible rfl)
  simp only [Act.put, List.setIfInBounds_toArray, List.set_cons_zero, List.set_cons_succ]
  have hb2 := (hq2 (Nat.le_refl _)).1
  have hz2 := hb2.size
  have hgb : W0.drew.heap.size ≤ w2.heap.size := hz2
  have T0 := Blk.new w2 [.string ⟨#[]⟩, .string ⟨#[]⟩, .string ⟨#[]⟩] 28
  refine RE.steadily_store (i := 8) (fun w' => ((w'.setCell ⟨w2.heap.size, 0, none⟩ (.string ⟨A1.toArray⟩)).setCell ⟨w2.heap.size, 1, none⟩ (.string ⟨A2.toArray⟩)).setCell ⟨w2.heap.size, 2, none⟩ (.string ⟨A3.toArray⟩)) rfl rfl (by kernel_rfl) (by rfl) (fun w' hq => ?_) (fun w' => sp_set hgb w') (fun w3 hq3 => ?_)
  · have hT := (hq (Nat.le_trans hgb (by simp))).2 _ _ _ hgb T0
    rcases hT with hT | hT
    · have e0 := hT.cell 0
      have e1 := hT.cell 1
      have e2 := hT.cell 2
      simp only [List.getElem?_cons_zero, List.getElem?_cons_succ] at e0 e1 e2
      have f0 := hT.frozen 0
      have f1 := hT.frozen 1
      have f2 := hT.frozen 2
      go_simp; try with_reducible rfl
    · unfold set3L at hT
      simp only [List.set_cons_zero, List.set_cons_succ] at hT
      have e0 := hT.cell 0
      have e1 := hT.cell 1
      have e2 := hT.cell 2
      simp only [List.getElem?_cons_zero, List.getElem?_cons_succ] at e0 e1 e2
      have f0 := hT.frozen 0
      have f1 := hT.frozen 1
      have f2 := hT.frozen 2
      go_simp; try with_reducible rfl
  simp only [Act.put]
  refine RE.steadily_value (i := 9) (v := ?_) rfl rfl (by kernel_rfl) (by kernel_rfl) (fun _ _ _ h => h) (by rfl) ?_ ?_
  rotate_left
  · (intro w' hq; go_simp; try with_reducible rfl)
  simp only [Act.put, List.setIfInBounds_toArray, List.set_cons_zero, List.set_cons_succ]
  refine RE.steadily_done (by kernel_rfl) (fun w4 hq4 => ?_)
  simp only [List.drop_succ_cons, List.drop_zero]
  have lM0 := BM.lt
  have hMT : w2.heap.size ≠ w1.heap.size := by
    have : w1.heap.size < W0.drew.heap.size := lM0
    omega
  obtain ⟨b3, T3⟩ := hq3 (Nat.le_trans hgb (by simp))
  replace T3 := T3 _ _ _ hgb T0
  obtain ⟨w5, hw5⟩ : ∃ w5, ((w3.setCell ⟨w2.heap.size, 0, none⟩ (.string ⟨A1.toArray⟩)).setCell ⟨w2.heap.size, 1, none⟩ (.string ⟨A2.toArray⟩)).setCell ⟨w2.heap.size, 2, none⟩ (.string ⟨A3.toArray⟩) = w5 := ⟨_, rfl⟩
  have T5 : Blk w5 w2.heap.size [.string ⟨A1.toArray⟩, .string ⟨A2.toArray⟩, .string ⟨A3.toArray⟩] 28 := by
    rw [← hw5]
    rcases T3 with h | h
    · exact h.set3
    · exact Blk.set3 h
  have b5 : Below W0.drew.heap.size w3 w5 := by
    rw [← hw5]; exact ((sp_set hgb w3) (Nat.le_trans (Nat.le_trans hgb (by simp)) b3.size)).1
  rw [hw5] at hq4
  clear hw5
  have b35 := Below.trans b3 b5
  obtain ⟨b4, T4⟩ := hq4 (Nat.le_trans (Nat.le_trans hgb (by simp)) b35.size)
  replace T4 := T4 _ _ _ hgb T5
  have BT : Blk w4 w2.heap.size [.string ⟨A1.toArray⟩, .string ⟨A2.toArray⟩, .string ⟨A3.toArray⟩] 28 := T4.elim id id
  have hsW : Below W0.drew.heap.size W0.drew w4 := Below.trans hb2 (Below.trans ((Below.refl _ _).alloc hgb _) (Below.trans b35 b4))
  have hsQ : Q W0 w4 := Q.trans hqd hsW
  have hQw : Q w w4 := Q.trans hq0 hsQ
  replace BM := BM.keep hsQ BM.lt
  clear d0 d1 d2 d3 d4 d5 d6 d7 d8 d9 d10 hq2 hq3 hq4 hqd hb2 hz2 T0 T3 T4 T5 b3 b4 b5 b35 hsW hsQ hQ0 hQ1 hs1 hq1 hq0
  generalize w2.heap.size = bq at *
  generalize w1.heap.size = bm at *
  clear hMT lM0 hgb HOF HA
  replace hE := hE.q hQw
  have hQ0 := Q.refl w4
  replace m0 := BM.cell 0
  replace m1 := BM.cell 1
  replace m2 := BM.cell 2
  replace m3 := BM.cell 3
  replace m4 := BM.cell 4
  replace m5 := BM.cell 5
  replace m6 := BM.cell 6
  replace m7 := BM.cell 7
  replace m8 := BM.cell 8
  replace m9 := BM.cell 9
  replace m10 := BM.cell 10
  simp only [List.getElem?_cons_zero, List.getElem?_cons_succ] at m0 m1 m2 m3 m4 m5 m6 m7 m8 m9 m10
  replace lBM := BM.lt
  replace t0 := BT.cell 0
  replace t1 := BT.cell 1
  replace t2 := BT.cell 2
  simp only [List.getElem?_cons_zero, List.getElem?_cons_succ] at t0 t1 t2
  replace lBT := BT.lt
  go_wp2_with fail
  refine (HA0.out _ (hE.ofQ bt)).mono ?_
  rintro e y1 ⟨rfl, hq1⟩
  have hs1 : Q w4 y1 := Q.trans bt hq1
  have hQ1 : Q w4 y1 := Q.trans hQ0 hs1
  replace BM := BM.keep hs1 BM.lt
  replace m0 := BM.cell 0
  replace m1 := BM.cell 1
  replace m2 := BM.cell 2
  replace m3 := BM.cell 3
  replace m4 := BM.cell 4
  replace m5 := BM.cell 5
  replace m6 := BM.cell 6
  replace m7 := BM.cell 7
  replace m8 := BM.cell 8
  replace m9 := BM.cell 9
  replace m10 := BM.cell 10
  simp only [List.getElem?_cons_zero, List.getElem?_cons_succ] at m0 m1 m2 m3 m4 m5 m6 m7 m8 m9 m10
  replace lBM := BM.lt
  replace BT := BT.keep hs1 BT.lt
  replace t0 := BT.cell 0
  replace t1 := BT.cell 1
  replace t2 := BT.cell 2
  simp only [List.getElem?_cons_zero, List.getElem?_cons_succ] at t0 t1 t2
  replace lBT := BT.lt
  go_wp2_with fail
  refine (HA1.out _ (hE.ofQ bt)).mono ?_
  rintro e y2 ⟨rfl, hq2⟩
  have hs2 : Q y1 y2 := Q.trans bt hq2
  have hQ2 : Q w4 y2 := Q.trans hQ1 hs2
  replace BM := BM.keep hs2 BM.lt
  replace m0 := BM.cell 0
  replace m1 := BM.cell 1
  replace m2 := BM.cell 2
  replace m3 := BM.cell 3
  replace m4 := BM.cell 4
  replace m5 := BM.cell 5
  replace m6 := BM.cell 6
  replace m7 := BM.cell 7
  replace m8 := BM.cell 8
  replace m9 := BM.cell 9
  replace m10 := BM.cell 10
  simp only [List.getElem?_cons_zero, List.getElem?_cons_succ] at m0 m1 m2 m3 m4 m5 m6 m7 m8 m9 m10
  replace lBM := BM.lt
  replace BT := BT.keep hs2 BT.lt
  replace t0 := BT.cell 0
  replace t1 := BT.cell 1
  replace t2 := BT.cell 2
  simp only [List.getElem?_cons_zero, List.getElem?_cons_succ] at t0 t1 t2
  replace lBT := BT.lt
  have BF := (Blk.new y1 [.string ⟨X.toArray⟩, .string ⟨Y.toArray⟩, .string ⟨Z.toArray⟩] 28).keep hq2 (by simp)
  replace f0 := BF.cell 0
  replace f1 := BF.cell 1
  replace f2 := BF.cell 2
  simp only [List.getElem?_cons_zero, List.getElem?_cons_succ] at f0 f1 f2
  replace lBF := BF.lt
  go_wp2_with fail
  refine (HL.out _ (hE.ofQ bt)).mono ?_
  rintro e y3 ⟨v1, rfl, hq3, l1⟩
  have hs3 : Q y2 y3 := Q.trans bt hq3
  have hQ3 : Q w4 y3 := Q.trans hQ2 hs3
  replace BM := BM.keep hs3 BM.lt
  replace m0 := BM.cell 0
  replace m1 := BM.cell 1
  replace m2 := BM.cell 2
  replace m3 := BM.cell 3
  replace m4 := BM.cell 4
  replace m5 := BM.cell 5
  replace m6 := BM.cell 6
  replace m7 := BM.cell 7
  replace m8 := BM.cell 8
  replace m9 := BM.cell 9
  replace m10 := BM.cell 10
  simp only [List.getElem?_cons_zero, List.getElem?_cons_succ] at m0 m1 m2 m3 m4 m5 m6 m7 m8 m9 m10
  replace lBM := BM.lt
  replace BT := BT.keep hs3 BT.lt
  replace t0 := BT.cell 0
  replace t1 := BT.cell 1
  replace t2 := BT.cell 2
  simp only [List.getElem?_cons_zero, List.getElem?_cons_succ] at t0 t1 t2
  replace lBT := BT.lt
  replace BF := BF.keep hs3 BF.lt
  replace f0 := BF.cell 0
  replace f1 := BF.cell 1
  replace f2 := BF.cell 2
  simp only [List.getElem?_cons_zero, List.getElem?_cons_succ] at f0 f1 f2
  replace lBF := BF.lt
  clear BF lBF f0 f1 f2
  have hzy := hQ3.size
  have L1 := Lib.hid (HLM.out _ _ _ l1)
  clear l1
  rcases Nat.eq_zero_or_pos k with h0 | h0
  · have hk0 : (k : Int) = 0 := by omega
    obtain ⟨rfl, rfl, rfl⟩ := HK0.out h0
    clear HOWN HREST L1 HLM HL HA0 HA1
    go_wp2_with fail
    refine (awake32 _ (hE.ofQ bt)).mono ?_
    rintro e y4 ⟨rfl, hq4⟩
    have hQ5 : Q w y4 := Q.trans hQw (Q.trans bt hq4)
    go_wp2
    go_ret
    exact ⟨rfl, hQ5⟩
  have hk0 : ¬ (k : Int) = 0 := by omega
  obtain ⟨HLo, HSc, HC⟩ := HOWN.out h0
  have hne1 : y3.heap.size ≠ bq := by omega
  have hne2 : y3.heap.size ≠ bm := by omega
  clear HK0 HL HA0 HA1 HOWN HLM
  go_wp2_with fail
  refine (HLo _ (hE.ofQ bt)).mono ?_
  rintro e y4 ⟨vo, rfl, hq4, lo⟩
  have hs4 : Q y3 y4 := Q.trans bt hq4
  have hQ4 : Q w4 y4 := Q.trans hQ3 hs4
  replace BM := BM.keep hs4 BM.lt
  replace m0 := BM.cell 0
  replace m1 := BM.cell 1
  replace m2 := BM.cell 2
  replace m3 := BM.cell 3
  replace m4 := BM.cell 4
  replace m5 := BM.cell 5
  replace m6 := BM.cell 6
  replace m7 := BM.cell 7
  replace m8 := BM.cell 8
  replace m9 := BM.cell 9
  replace m10 := BM.cell 10
  simp only [List.getElem?_cons_zero, List.getElem?_cons_succ] at m0 m1 m2 m3 m4 m5 m6 m7 m8 m9 m10
  replace lBM := BM.lt
  replace BT := BT.keep hs4 BT.lt
  replace t0 := BT.cell 0
  replace t1 := BT.cell 1
  replace t2 := BT.cell 2
  simp only [List.getElem?_cons_zero, List.getElem?_cons_succ] at t0 t1 t2
  replace lBT := BT.lt
  have hlow : y3.heap.size < (y3.alloc (.cells #[.int .i64 1, .int .i64 0, .int .i64 (-1), .string ⟨X.toArray⟩, .string ⟨Y.toArray⟩, .string ⟨Z.toArray⟩, .string ⟨A1.toArray⟩, .string ⟨A2.toArray⟩, .string ⟨A3.toArray⟩, .int .i64 60, .int .i64 180] 30)).heap.size := by simp
  have BP := (Blk.new y3 [.int .i64 1, .int .i64 0, .int .i64 (-1), .string ⟨X.toArray⟩, .string ⟨Y.toArray⟩, .string ⟨Z.toArray⟩, .string ⟨A1.toArray⟩, .string ⟨A2.toArray⟩, .string ⟨A3.toArray⟩, .int .i64 60, .int .i64 180] 30).keep hq4 (by simp)
  replace p0 := BP.cell 0
  replace p1 := BP.cell 1
  replace p2 := BP.cell 2
  replace p3 := BP.cell 3
  replace p4 := BP.cell 4
  replace p5 := BP.cell 5
  replace p6 := BP.cell 6
  replace p7 := BP.cell 7
  replace p8 := BP.cell 8
  replace p9 := BP.cell 9
  replace p10 := BP.cell 10
  simp only [List.getElem?_cons_zero, List.getElem?_cons_succ] at p0 p1 p2 p3 p4 p5 p6 p7 p8 p9 p10
  replace lBP := BP.lt
  go_wp2_with fail
  refine (HN.out _ (hE.ofQ bt)).mono ?_
  rintro e y5 ⟨rfl, hq5⟩
  have hs5 : Q y4 y5 := Q.trans bt hq5
  have hQ5 : Q w4 y5 := Q.trans hQ4 hs5
  replace lo := LenAt.keep lo hs5
  replace BM := BM.keep hs5 BM.lt
  replace m0 := BM.cell 0
  replace m1 := BM.cell 1
  replace m2 := BM.cell 2
  replace m3 := BM.cell 3
  replace m4 := BM.cell 4
  replace m5 := BM.cell 5
  replace m6 := BM.cell 6
  replace m7 := BM.cell 7
  replace m8 := BM.cell 8
  replace m9 := BM.cell 9
  replace m10 := BM.cell 10
  simp only [List.getElem?_cons_zero, List.getElem?_cons_succ] at m0 m1 m2 m3 m4 m5 m6 m7 m8 m9 m10
  replace lBM := BM.lt
  replace BT := BT.keep hs5 BT.lt
  replace t0 := BT.cell 0
  replace t1 := BT.cell 1
  replace t2 := BT.cell 2
  simp only [List.getElem?_cons_zero, List.getElem?_cons_succ] at t0 t1 t2
  replace lBT := BT.lt
  replace BP := BP.keep hs5 BP.lt
  replace p0 := BP.cell 0
  replace p1 := BP.cell 1
  replace p2 := BP.cell 2
  replace p3 := BP.cell 3
  replace p4 := BP.cell 4
  replace p5 := BP.cell 5
  replace p6 := BP.cell 6
  replace p7 := BP.cell 7
  replace p8 := BP.cell 8
  replace p9 := BP.cell 9
  replace p10 := BP.cell 10
  simp only [List.getElem?_cons_zero, List.getElem?_cons_succ] at p0 p1 p2 p3 p4 p5 p6 p7 p8 p9 p10
  replace lBP := BP.lt
  have hQ35 : Q y3 y5 := Q.trans hs4 hs5
  go_wp2_with fail
  refine (HSc _ _ _ (hE.q hQ5) (surd1_keep L1.out hQ35)).mono ?_
  rintro e y6 ⟨vw, rfl, hq6, sw⟩
  have hs6 : Q y5 y6 := Q.trans bt hq6
  have hQ6 : Q w4 y6 := Q.trans hQ5 hs6
  replace lo := LenAt.keep lo hs6
  replace BM := BM.keep hs6 BM.lt
  replace m0 := BM.cell 0
  replace m1 := BM.cell 1
  replace m2 := BM.cell 2
  replace m3 := BM.cell 3
  replace m4 := BM.cell 4
  replace m5 := BM.cell 5
  replace m6 := BM.cell 6
  replace m7 := BM.cell 7
  replace m8 := BM.cell 8
  replace m9 := BM.cell 9
  replace m10 := BM.cell 10
  simp only [List.getElem?_cons_zero, List.getElem?_cons_succ] at m0 m1 m2 m3 m4 m5 m6 m7 m8 m9 m10
  replace lBM := BM.lt
  replace BT := BT.keep hs6 BT.lt
  replace t0 := BT.cell 0
  replace t1 := BT.cell 1
  replace t2 := BT.cell 2
  simp only [List.getElem?_cons_zero, List.getElem?_cons_succ] at t0 t1 t2
  replace lBT := BT.lt
  replace BP := BP.keep hs6 BP.lt
  replace p0 := BP.cell 0
  replace p1 := BP.cell 1
  replace p2 := BP.cell 2
  replace p3 := BP.cell 3
  replace p4 := BP.cell 4
  replace p5 := BP.cell 5
  replace p6 := BP.cell 6
  replace p7 := BP.cell 7
  replace p8 := BP.cell 8
  replace p9 := BP.cell 9
  replace p10 := BP.cell 10
  simp only [List.getElem?_cons_zero, List.getElem?_cons_succ] at p0 p1 p2 p3 p4 p5 p6 p7 p8 p9 p10
  replace lBP := BP.lt
  go_wp2_with fail
  refine (HC _ _ _ _ _ (hE.q hQ6) lo sw).mono ?_
  rintro e y7 ⟨rfl, hq7⟩
  have hs7 : Q y6 y7 := Q.trans bt hq7
  have hQ7 : Q w4 y7 := Q.trans hQ6 hs7
  replace lo := LenAt.keep lo hs7
  replace BM := BM.keep hs7 BM.lt
  replace m0 := BM.cell 0
  replace m1 := BM.cell 1
  replace m2 := BM.cell 2
  replace m3 := BM.cell 3
  replace m4 := BM.cell 4
  replace m5 := BM.cell 5
  replace m6 := BM.cell 6
  replace m7 := BM.cell 7
  replace m8 := BM.cell 8
  replace m9 := BM.cell 9
  replace m10 := BM.cell 10
  simp only [List.getElem?_cons_zero, List.getElem?_cons_succ] at m0 m1 m2 m3 m4 m5 m6 m7 m8 m9 m10
  replace lBM := BM.lt
  replace BT := BT.keep hs7 BT.lt
  replace t0 := BT.cell 0
  replace t1 := BT.cell 1
  replace t2 := BT.cell 2
  simp only [List.getElem?_cons_zero, List.getElem?_cons_succ] at t0 t1 t2
  replace lBT := BT.lt
  replace BP := BP.keep hs7 BP.lt
  replace p0 := BP.cell 0
  replace p1 := BP.cell 1
  replace p2 := BP.cell 2
  replace p3 := BP.cell 3
  replace p4 := BP.cell 4
  replace p5 := BP.cell 5
  replace p6 := BP.cell 6
  replace p7 := BP.cell 7
  replace p8 := BP.cell 8
  replace p9 := BP.cell 9
  replace p10 := BP.cell 10
  simp only [List.getElem?_cons_zero, List.getElem?_cons_succ] at p0 p1 p2 p3 p4 p5 p6 p7 p8 p9 p10
  replace lBP := BP.lt
  clear HC HSc HN HLo sw
  have hQ37 : Q y3 y7 := Q.trans hQ35 (Q.trans hs6 hs7)
  by_cases h16 : k = 16
  · have hk16' : (k : Int) = 16 := by omega
    clear HREST
    go_wp2_with fail
    refine (awake32 _ (hE.q hQ7)).mono ?_
    rintro e y8 ⟨rfl, hq8⟩
    have hQ9 : Q w y8 := Q.trans hQw (Q.trans hQ7 hq8)
    go_wp2
    go_ret
    exact ⟨rfl, hQ9⟩
  have hk16' : ¬ (k : Int) = 16 := by omega
  obtain ⟨HLr, z, mm, HAd, HC2⟩ := HREST.out h0 h16
  clear HREST
  have g0 := BP.frozen 0
  have g1 := BP.frozen 1
  have g2 := BP.frozen 2
  have g3 := BP.frozen 3
  have g4 := BP.frozen 4
  have g5 := BP.frozen 5
  have g6 := BP.frozen 6
  have g7 := BP.frozen 7
  have g8 := BP.frozen 8
  have g9 := BP.frozen 9
  have g10 := BP.frozen 10
  have hz7 := hQ7.size
  have hb4 : w4.heap.size ≤ y3.heap.size := hzy
  clear hq1 hq2 hq3 hq4 hq5 hq6 hq7 hs1 hs2 hs3 hs4 hs5 hs6 hs7 hQ0 hQ1 hQ2 hQ3 hQ5 hQ6 hQ35
  (try go_simp)
  repeat ((fail_if_success (conv in (World.setCell _ _ _) => skip)); (first | go_values | go_skip | go_guarded | go_step | go_upon | go_back | (go_ite <;> go_prune <;> (try go_simp))))
  have BP9 := BP.set11 (x0 := .int .i64 1) (x1 := .int .i64 0) (x2 := .int .i64 (-1)) (x3 := .string ⟨X.toArray⟩) (x4 := .string ⟨Y.toArray⟩) (x5 := .string ⟨Z.toArray⟩) (x6 := .string ⟨X'.toArray⟩) (x7 := .string ⟨Y'.toArray⟩) (x8 := .string ⟨Z'.toArray⟩) (x9 := .int .i64 60) (x10 := .int .i64 180)
  have BT9 := (((((((((((BT).setOther hne1 0 (.int .i64 1)).setOther hne1 1 (.int .i64 0)).setOther hne1 2 (.int .i64 (-1))).setOther hne1 3 (.string ⟨X.toArray⟩)).setOther hne1 4 (.string ⟨Y.toArray⟩)).setOther hne1 5 (.string ⟨Z.toArray⟩)).setOther hne1 6 (.string ⟨X'.toArray⟩)).setOther hne1 7 (.string ⟨Y'.toArray⟩)).setOther hne1 8 (.string ⟨Z'.toArray⟩)).setOther hne1 9 (.int .i64 60)).setOther hne1 10 (.int .i64 180)
  have hX9 := q_set11 hQ7 hb4 (x0 := .int .i64 1) (x1 := .int .i64 0) (x2 := .int .i64 (-1)) (x3 := .string ⟨X.toArray⟩) (x4 := .string ⟨Y.toArray⟩) (x5 := .string ⟨Z.toArray⟩) (x6 := .string ⟨X'.toArray⟩) (x7 := .string ⟨Y'.toArray⟩) (x8 := .string ⟨Z'.toArray⟩) (x9 := .int .i64 60) (x10 := .int .i64 180)
  have hY9 := q_set11 hQ37 (Nat.le_refl y3.heap.size) (x0 := .int .i64 1) (x1 := .int .i64 0) (x2 := .int .i64 (-1)) (x3 := .string ⟨X.toArray⟩) (x4 := .string ⟨Y.toArray⟩) (x5 := .string ⟨Z.toArray⟩) (x6 := .string ⟨X'.toArray⟩) (x7 := .string ⟨Y'.toArray⟩) (x8 := .string ⟨Z'.toArray⟩) (x9 := .int .i64 60) (x10 := .int .i64 180)
  have lo9 := LenAt.setLow (LenAt.setLow (LenAt.setLow (LenAt.setLow (LenAt.setLow (LenAt.setLow (LenAt.setLow (LenAt.setLow (LenAt.setLow (LenAt.setLow (LenAt.setLow (lo) hlow 0 (.int .i64 1)) hlow 1 (.int .i64 0)) hlow 2 (.int .i64 (-1))) hlow 3 (.string ⟨X.toArray⟩)) hlow 4 (.string ⟨Y.toArray⟩)) hlow 5 (.string ⟨Z.toArray⟩)) hlow 6 (.string ⟨X'.toArray⟩)) hlow 7 (.string ⟨Y'.toArray⟩)) hlow 8 (.string ⟨Z'.toArray⟩)) hlow 9 (.int .i64 60)) hlow 10 (.int .i64 180)
  obtain ⟨W9, hW9⟩ : ∃ W9, ((((((((((y7.setCell ⟨y3.heap.size, 0, none⟩ (.int .i64 1)).setCell ⟨y3.heap.size, 1, none⟩ (.int .i64 0)).setCell ⟨y3.heap.size, 2, none⟩ (.int .i64 (-1))).setCell ⟨y3.heap.size, 3, none⟩ (.string ⟨X.toArray⟩)).setCell ⟨y3.heap.size, 4, none⟩ (.string ⟨Y.toArray⟩)).setCell ⟨y3.heap.size, 5, none⟩ (.string ⟨Z.toArray⟩)).setCell ⟨y3.heap.size, 6, none⟩ (.string ⟨X'.toArray⟩)).setCell ⟨y3.heap.size, 7, none⟩ (.string ⟨Y'.toArray⟩)).setCell ⟨y3.heap.size, 8, none⟩ (.string ⟨Z'.toArray⟩)).setCell ⟨y3.heap.size, 9, none⟩ (.int .i64 60)).setCell ⟨y3.heap.size, 10, none⟩ (.int .i64 180) = W9 := ⟨_, rfl⟩
  rw [hW9] at BP9 hX9 hY9 ⊢
  replace BT9 : Blk W9 bq [.string ⟨A1.toArray⟩, .string ⟨A2.toArray⟩, .string ⟨A3.toArray⟩] 28 := by rw [← hW9]; exact BT9
  replace lo9 : LenAt W9 (y3.alloc (.cells #[.int .i64 1, .int .i64 0, .int .i64 (-1), .string ⟨X.toArray⟩, .string ⟨Y.toArray⟩, .string ⟨Z.toArray⟩, .string ⟨A1.toArray⟩, .string ⟨A2.toArray⟩, .string ⟨A3.toArray⟩, .int .i64 60, .int .i64 180] 30)).heap.size vo s2 := by rw [← hW9]; exact lo9
  clear hW9 lo BP BM BT g0 g1 g2 g3 g4 g5 g6 g7 g8 g9 g10 p0 p1 p2 p3 p4 p5 p6 p7 p8 p9 p10 m0 m1 m2 m3 m4 m5 m6 m7 m8 m9 m10 t0 t1 t2 lBP lBM lBT hQ7 hQ37 hz7
  have p0 := BP9.cell 0
  have p1 := BP9.cell 1
  have p2 := BP9.cell 2
  have p3 := BP9.cell 3
  have p4 := BP9.cell 4
  have p5 := BP9.cell 5
  have p6 := BP9.cell 6
  have p7 := BP9.cell 7
  have p8 := BP9.cell 8
  have p9 := BP9.cell 9
  have p10 := BP9.cell 10
  have t0 := BT9.cell 0
  have t1 := BT9.cell 1
  have t2 := BT9.cell 2
  simp only [List.getElem?_cons_zero, List.getElem?_cons_succ] at p0 p1 p2 p3 p4 p5 p6 p7 p8 p9 p10 t0 t1 t2
  have g3 := BP9.frozen 3
  have g4 := BP9.frozen 4
  have g5 := BP9.frozen 5
  have lBP := BP9.lt
  have lBT := BT9.lt
  go_wp2_with fail
  refine (HLr _ (hE.ofQ (by exact q_set (q_set (q_set hX9 hb4 _ _) hb4 _ _) hb4 _ _))).mono ?_
  rintro e y8 ⟨vr, rfl, hq8, lr⟩
  have hQ8 : Q w4 y8 := Below.trans (q_set (q_set (q_set hX9 hb4 _ _) hb4 _ _) hb4 _ _) (hq8.mono (by have := hX9.size; simp; omega))
  have hQ38 : Q y3 y8 := Below.trans (q_set (q_set (q_set hY9 (Nat.le_refl _) _ _) (Nat.le_refl _) _ _) (Nat.le_refl _) _ _) (hq8.mono (by have := hY9.size; simp; omega))
  have lo8 := LenAt.keep (LenAt.setLow (LenAt.setLow (LenAt.setLow lo9 hlow _ _) hlow _ _) hlow _ _) hq8
  clear lo9 hq8 BP9 BT9 g3 g4 g5 p0 p1 p2 p3 p4 p5 p6 p7 p8 p9 p10 t0 t1 t2 lBP lBT
  go_wp2_with fail
  refine (HAd _ _ _ _ _ (hE.q hQ8) lo8 lr).mono ?_
  rintro e y9 ⟨vs, rfl, hq9, ss⟩
  have hQ9 : Q w4 y9 := Q.trans hQ8 hq9
  go_wp2_with fail
  refine (HC2 _ _ _ _ _ (hE.q hQ9) ss (surd1_keep L1.out (Q.trans hQ38 hq9))).mono ?_
  rintro e y10 ⟨rfl, hq10⟩
  have hQ10 : Q w4 y10 := Q.trans hQ9 hq10
  go_wp2_with fail
  refine (awake32 _ (hE.q hQ10)).mono ?_
  rintro e y11 ⟨rfl, hq11⟩
  have hQ11 : Q w y11 := Q.trans hQw (Q.trans hQ10 hq11)
  go_wp2
  go_ret
  exact ⟨rfl, hQ11⟩

theorem shares32_walk (a b c d e f : Int) (ha : I8 a) (hb : I8 b) (hc : I8 c) (hd : I8 d) (he : I8 e) (hf : I8 f) (x : Int) (hx0 : 0 ≤ x) (hx : x ≤ 255) (w : World) (hE : Env w) :
    Calls Tryz.prog 4 #[.agg #[.int .i8 a, .int .i8 b, .int .i8 c, .int .i8 d, .int .i8 e, .int .i8 f], .int .u8 x] w fun e' w' => e' = .returned (.bool true) ∧ Q w w' := by
  obtain ⟨n, rfl⟩ := Int.eq_ofNat_of_zero_le hx0
  exact shares32_law a b c d e f ha hb hc hd he hf n (by omega) w hE

end Go.Proofs.YthokehkdpmbeaaaGreatDoor
