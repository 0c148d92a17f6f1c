/-
  The law TruelengthMoved: its walk.; The law TruelengthSquares: its walk. Compare by the values; the law TruelengthRounds: its walk.; Sums of roots by their values: what a list of terms is worth along one class of roots. Mathematics.
-/
import Derived.Test.YtedijdmenfcjlaaGreatDoorVZ3
import Derived.BigRegion
namespace Go.Proofs.YtedijdmenfcjlaaGreatDoor
open Go.RowKit Kp
open Go.Lib (decDigits)
theorem halfR (a : Int) : Rat.divInt a ((2 : Nat) : Int) = (a : Rat) / 2 := by
 rw [Rat.divInt_eq_div, Rat.intCast_natCast]; rfl
theorem half_bd {a : Int} (h : a.natAbs < 1000) : Bd 3 (Rat.divInt a ((2 : Nat) : Int)) := bd_divInt (by decide) h (by decide)
theorem half_b3 {a b c : Int} (ha : a.natAbs < 1000) (hb : b.natAbs < 1000) (hc : c.natAbs < 1000) : B3 3 (half a b c) := ⟨half_bd ha, half_bd hb, half_bd hc⟩
theorem half_sub (a b c d e f : Int) : (half d e f).sub (half a b c) = half (d - a) (e - b) (f - c) := by
 unfold P3.sub half
 simp only [halfR, Rat.intCast_sub, P3.mk.injEq]
 exact ⟨by grind, by grind, by grind⟩
theorem half_inj {a b c d e f : Int} (h : half a b c = half d e f) : a = d ∧ b = e ∧ c = f := by
 have key : ∀ x y : Int, Rat.divInt x ((2 : Nat) : Int) = Rat.divInt y ((2 : Nat) : Int) → x = y := fun x y e => by
  rw [halfR, halfR] at e
  have : (x : Rat) = (y : Rat) := by grind
  exact_mod_cast this
 unfold half at h
 simp only [P3.mk.injEq] at h
 exact ⟨key _ _ h.1, key _ _ h.2.1, key _ _ h.2.2⟩
theorem half_sq (a b c : Int) : (half a b c).sq = Rat.divInt (a * a + b * b + c * c) ((4 : Nat) : Int) := by
 unfold P3.sq half
 simp only [halfR]
 rw [Rat.divInt_eq_div, Rat.intCast_natCast, show ((4 : Nat) : Rat) = 4 from rfl, Rat.intCast_add, Rat.intCast_add, Rat.intCast_mul, Rat.intCast_mul, Rat.intCast_mul]
 grind
theorem sq_le {a : Int} (h : a.natAbs ≤ 255) : 0 ≤ a * a ∧ a * a ≤ 65025 := by
 have h1 : a.natAbs * a.natAbs ≤ 255 * 255 := Nat.mul_le_mul h h
 have h2 : (a * a) = ((a.natAbs * a.natAbs : Nat) : Int) := by exact (Int.natAbs_mul_self).symm
 omega
theorem half_sq_bd {a b c : Int} (ha : a.natAbs ≤ 255) (hb : b.natAbs ≤ 255) (hc : c.natAbs ≤ 255) : Bd 6 (half a b c).sq := by
 rw [half_sq]
 have := sq_le ha
 have := sq_le hb
 have := sq_le hc
 exact bd_divInt (by decide) (by omega) (by decide)
structure Ends (a b c d e f : Int) : Prop where
 ha : I8 a
 hb : I8 b
 hc : I8 c
 hd : I8 d
 he : I8 e
 hf : I8 f
 ne : half a b c ≠ half d e f
theorem ends_of {a b c d e f : Int} (ha : I8 a) (hb : I8 b) (hc : I8 c) (hd : I8 d) (he : I8 e) (hf : I8 f) : Ends a b c (toX a b c d e f) e f := by
 have h1 := ha.1
 have h2 := ha.2
 refine ⟨ha, hb, hc, ?_, he, hf, fun h => ?_⟩
 ·unfold toX; split
  ·split
   ·exact ⟨by decide, by decide⟩
   ·exact ⟨by omega, by omega⟩
  ·exact hd
 ·obtain ⟨e1, e2, e3⟩ := half_inj h
  unfold toX at e1
  split at e1
  ·split at e1 <;> omega
  ·next h => exact h ⟨e1, e2, e3⟩
theorem i8_abs {a : Int} (h : I8 a) : a.natAbs ≤ 128 := by have := h.1; have := h.2; omega
theorem mok_law : MOk 1 60 180 := ⟨by decide, by decide, by decide, by decide, by decide, by decide⟩
end Go.Proofs.YtedijdmenfcjlaaGreatDoor
namespace Go.Proofs.YtedijdmenfcjlaaGreatDoor
open Go.RowKit Kp
open Go.Lib (decDigits)
theorem root_sq (s : Rat) (hs : 0 < s.num) : aOf s * aOf s * (leftOf s : Rat) = s := by
 obtain ⟨C, L, N, D, hN, hD, h, hsd, e1, e2, e3⟩ := depth_facts s hs
 rw [e1, e3]
 have : s = N / D := by grind
 rw [this]
 grind
theorem aOf_pos {n : Nat} {r : Rat} (hr : Bd n r) (hp : 0 < r.num) : 0 < (aOf r).num := by
 obtain ⟨h1, -⟩ := nd_lt hr hp
 exact divInt_num_pos (by have := (normM_spec h1).2.1; omega) r.den_pos
theorem sq_zero {a : Int} (h : a * a = 0) : a = 0 := by
 rcases Int.mul_eq_zero.1 h with h | h <;> exact h
theorem ends_pos {a b c d e f : Int} (en : Ends a b c d e f) : 0 < ((half d e f).sub (half a b c)).sq.num := by
 obtain ⟨ha, hb, hc, hd, he, hf, hne⟩ := en
 have esub := half_sub a b c d e f
 have h0 := Rat.num_nonneg.2 (P3.sq_nonneg ((half d e f).sub (half a b c)))
 have h1 : ((half d e f).sub (half a b c)).sq.num ≠ 0 := fun h => by
  have h2 := Rat.num_eq_zero.1 h
  rw [esub, half_sq] at h2
  have h3 := sq_le (a := d - a) (by have := ha.1; have := ha.2; have := hd.1; have := hd.2; omega)
  have h4' := sq_le (a := e - b) (by have := hb.1; have := hb.2; have := he.1; have := he.2; omega)
  have h4 := sq_le (a := f - c) (by have := hc.1; have := hc.2; have := hf.1; have := hf.2; omega)
  have h5 : (d - a) * (d - a) + (e - b) * (e - b) + (f - c) * (f - c) = 0 := by
   rw [Rat.divInt_eq_div, Rat.intCast_natCast, show ((4 : Nat) : Rat) = 4 from rfl] at h2
   have h6 : (((d - a) * (d - a) + (e - b) * (e - b) + (f - c) * (f - c) : Int) : Rat) = 0 := by grind
   exact_mod_cast h6
  have z1 : d - a = 0 := sq_zero (by omega)
  have z2 : e - b = 0 := sq_zero (by omega)
  have z3 : f - c = 0 := sq_zero (by omega)
  apply hne
  rw [show d = a by omega, show e = b by omega, show f = c by omega]
 omega
end Go.Proofs.YtedijdmenfcjlaaGreatDoor
namespace Kp
theorem isqrt_self (n : Nat) : isqrt (n * n) = n := isqrt_of ⟨Nat.le_refl _, Nat.mul_lt_mul'' (Nat.lt_succ_self n) (Nat.lt_succ_self n)⟩
end Kp
namespace Go.Proofs.YtedijdmenfcjlaaGreatDoor
open Go.RowKit Kp
open Go.Lib (decDigits)
theorem mul_self_parts (t : Rat) : (t * t).num = t.num * t.num ∧ (t * t).den = t.den * t.den := by
 have h1 : t * (t.den : Rat) = (t.num : Rat) := mul_den_num t
 have h2 : (t * t) * ((t * t).den : Rat) = ((t * t).num : Rat) := mul_den_num (t * t)
 have hc1 := t.reduced
 have hc2 := (t * t).reduced
 have hd := t.den_nz
 have h3 : (((t * t).num * ((t.den : Int) * t.den) : Int) : Rat) = ((t.num * t.num * ((t * t).den : Int) : Int) : Rat) := by
  rw [Rat.intCast_mul, Rat.intCast_mul, Rat.intCast_mul, Rat.intCast_mul, Rat.intCast_natCast, Rat.intCast_natCast, ← h2, ← h1]
  grind
 have h4 : (t * t).num * ((t.den : Int) * t.den) = t.num * t.num * ((t * t).den : Int) := by exact_mod_cast h3
 generalize (t * t).num = N at *
 generalize (t * t).den = D at *
 have h5 : N.natAbs * (t.den * t.den) = t.num.natAbs * t.num.natAbs * D := by
  have := congrArg Int.natAbs h4
  simpa [Int.natAbs_mul] using this
 have c3 : Nat.Coprime (t.num.natAbs * t.num.natAbs) (t.den * t.den) := Nat.Coprime.mul_left (Nat.Coprime.mul_right hc1 hc1) (Nat.Coprime.mul_right hc1 hc1)
 have e1 : D ∣ t.den * t.den := by
  have : D ∣ N.natAbs * (t.den * t.den) := ⟨t.num.natAbs * t.num.natAbs, by rw [h5, Nat.mul_comm]⟩
  exact Nat.Coprime.dvd_of_dvd_mul_left (Nat.Coprime.symm hc2) this
 have e2 : t.den * t.den ∣ D := by
  have : t.den * t.den ∣ t.num.natAbs * t.num.natAbs * D := ⟨N.natAbs, by rw [← h5, Nat.mul_comm]⟩
  exact Nat.Coprime.dvd_of_dvd_mul_left (Nat.Coprime.symm c3) this
 have e3 : D = t.den * t.den := Nat.dvd_antisymm e1 e2
 refine ⟨?_, e3⟩
 rw [e3, Int.natCast_mul] at h4
 have : ((t.den : Int) * t.den) ≠ 0 := Int.mul_ne_zero (by omega) (by omega)
 exact Int.eq_of_mul_eq_mul_right this h4
theorem isSq_self {t : Rat} (ht : 0 ≤ t.num) : isSq (t * t) = true ∧ sqR (t * t) = t := by
 obtain ⟨h1, h2⟩ := mul_self_parts t
 obtain ⟨n, hn⟩ := Int.eq_ofNat_of_zero_le ht
 have e1 : (t * t).num.toNat = n * n := by rw [h1, hn, ← Int.natCast_mul, Int.toNat_natCast]
 unfold isSq sqR
 rw [e1, h2, isqrt_self, isqrt_self]
 refine ⟨by simp, ?_⟩
 rw [← hn]
 exact Rat.num_divInt_den t
theorem den_mul_le (x y : Rat) : (x * y).den ≤ x.den * y.den := by
 have h := Rat.mul_is x y
 rw [← Int.natCast_mul] at h
 rw [← h]
 exact divInt_den_le (Nat.mul_pos x.den_pos y.den_pos)
def NumAt (w : World) (B : Nat) (v : Value) (a : Rat) : Prop := (a = 0 ∧ v = .slice none 0 0) ∨ (a ≠ 0 ∧ Surd1 w B v a 1)
theorem NumAt.keep {w w' : World} {B : Nat} {v : Value} {a : Rat} (h : NumAt w B v a) (hq : Q w w') : NumAt w' B v a :=
 h.elim .inl (fun h => .inr ⟨h.1, surd1_keep h.2 hq⟩)
end Go.Proofs.YtedijdmenfcjlaaGreatDoor
namespace Go.Proofs.YtedijdmenfcjlaaGreatDoor
open Go.RowKit Kp
def Sim (a b : Nat) : Prop := isSq ((a : Rat) / (b : Rat)) = true
theorem sq_of {a b : Nat} {t : Rat} (hb : 0 < b) (ht : 0 ≤ t.num) (h : (a : Rat) = (b : Rat) * (t * t)) : isSq ((a : Rat) / (b : Rat)) = true ∧ sqR ((a : Rat) / (b : Rat)) = t := by
 have hb0 := nat_ne hb
 rw [show (a : Rat) / (b : Rat) = t * t by grind]
 exact isSq_self ht
theorem sim_parts {a b : Nat} (ha : 0 < a) (hb : 0 < b) (h : Sim a b) : 0 < (sqR ((a : Rat) / (b : Rat))).num ∧ (a : Rat) = (b : Rat) * (sqR ((a : Rat) / (b : Rat)) * sqR ((a : Rat) / (b : Rat))) := by
 have hp := (quot_parts hb ha).1
 have hb0 := nat_ne hb
 refine ⟨sqR_pos hp, ?_⟩
 rw [sqR_mul h (by omega)]
 grind
theorem sim_symm {a b : Nat} (ha : 0 < a) (hb : 0 < b) (h : Sim a b) : Sim b a := isSq_inv hb ha h
theorem sim_trans {a b c : Nat} (ha : 0 < a) (hb : 0 < b) (hc : 0 < c) (h : Sim a b) (k : Sim b c) : Sim a c ∧ sqR ((a : Rat) / (c : Rat)) = sqR ((a : Rat) / (b : Rat)) * sqR ((b : Rat) / (c : Rat)) := by
 obtain ⟨h1, h2⟩ := sim_parts ha hb h
 obtain ⟨k1, k2⟩ := sim_parts hb hc k
 generalize sqR ((a : Rat) / (b : Rat)) = t at *
 generalize sqR ((b : Rat) / (c : Rat)) = u at *
 exact sq_of hc (Int.le_of_lt (num_pos_mul h1 k1)) (by rw [h2, k2]; grind)
theorem sim_refl {a : Nat} (ha : 0 < a) : Sim a a ∧ sqR ((a : Rat) / (a : Rat)) = 1 := sq_of ha (by decide) (by grind)
def cf (m : Nat) (c : Rat × Nat) : Rat := if isSq ((c.2 : Rat) / (m : Rat)) then c.1 * sqR ((c.2 : Rat) / (m : Rat)) else 0
def VL (m : Nat) : List (Rat × Nat) → Rat
 | [] => 0
 | c :: r => cf m c + VL m r
theorem cf_sim {m : Nat} {c : Rat × Nat} (h : Sim c.2 m) : cf m c = c.1 * sqR ((c.2 : Rat) / (m : Rat)) := if_pos h
theorem cf_far {m : Nat} {c : Rat × Nat} (h : ¬ Sim c.2 m) : cf m c = 0 := if_neg h
theorem cf_plus {lo hi : Rat × Nat} (hl : 0 < lo.2) (hh : 0 < hi.2) {m : Nat} (hm : 0 < m) (h : Sim hi.2 lo.2) : cf m (plusC lo hi) = cf m lo + cf m hi := by
 have e2 : (plusC lo hi).2 = lo.2 := rfl
 have e1 : (plusC lo hi).1 = lo.1 + hi.1 * sqR ((hi.2 : Rat) / (lo.2 : Rat)) := rfl
 unfold cf
 rw [e1, e2]
 by_cases hs : isSq ((lo.2 : Rat) / (m : Rat)) = true
 ·obtain ⟨h1, h2⟩ := sim_trans hh hl hm h hs
  have h1' : isSq ((hi.2 : Rat) / (m : Rat)) = true := h1
  rw [if_pos hs, if_pos hs, if_pos h1', h2]
  grind
 ·have hn : ¬ isSq ((hi.2 : Rat) / (m : Rat)) = true := fun h1 => hs (sim_trans hl hh hm (sim_symm hh hl h) h1).1
  rw [if_neg hs, if_neg hs, if_neg hn]
  grind
theorem VL_add (m : Nat) (hm : 0 < m) (t : Rat × Nat) (ht : 0 < t.2) : ∀ L : List (Rat × Nat), (∀ c ∈ L, 0 < c.2) → VL m (addC L t) = VL m L + cf m t
 | [], _ => by unfold addC VL VL; grind
 | c :: r, h => by
  have hc := h c (by simp)
  unfold addC
  by_cases hs : isSq ((t.2 : Rat) / (c.2 : Rat)) = true
  ·rw [if_pos hs]
   unfold VL
   by_cases hl : t.2 < c.2
   ·rw [if_pos hl, cf_plus ht hc hm (sim_symm ht hc hs)]; grind
   ·rw [if_neg hl, cf_plus hc ht hm hs]; grind
  ·rw [if_neg hs]
   unfold VL
   rw [VL_add m hm t ht r (fun c hc => h c (by simp [hc]))]; grind
theorem VL_out (m : Nat) : ∀ L : List (Rat × Nat), VL m (outC L) = VL m L
 | [] => rfl
 | c :: r => by
  have ih := VL_out m r
  by_cases h : c.1 = 0
  ·have e : outC (c :: r) = outC r := by unfold outC; simp [h]
   rw [e, ih]
   show VL m r = cf m c + VL m r
   have : cf m c = 0 := by unfold cf; rw [h]; split <;> grind
   rw [this]; grind
  ·have e : outC (c :: r) = c :: outC r := by unfold outC; simp [h]
   rw [e]
   show cf m c + VL m (outC r) = cf m c + VL m r
   rw [ih]
theorem VL_append (m : Nat) : ∀ L K : List (Rat × Nat), VL m (L ++ K) = VL m L + VL m K
 | [], K => by rw [List.nil_append]; show VL m K = 0 + VL m K; grind
 | c :: r, K => by
  show cf m c + VL m (r ++ K) = cf m c + VL m r + VL m K
  rw [VL_append m r K]; grind
theorem VL_perm (m : Nat) {L K : List (Rat × Nat)} (h : L.Perm K) : VL m L = VL m K := by
 induction h with
 | nil => rfl
 | cons x _ ih => show cf m x + _ = cf m x + _; rw [ih]
 | swap x y l => show cf m y + (cf m x + VL m l) = cf m x + (cf m y + VL m l); grind
 | trans _ _ h1 h2 => rw [h1, h2]
def Apart (L : List (Rat × Nat)) : Prop := L.Pairwise fun a b => ¬ Sim b.2 a.2
theorem addC_roots (t : Rat × Nat) : ∀ L : List (Rat × Nat), ∀ d ∈ addC L t, d.2 = t.2 ∨ ∃ c ∈ L, d.2 = c.2
 | [], d, hd => by unfold addC at hd; rw [List.mem_singleton] at hd; subst hd; exact .inl rfl
 | c :: r, d, hd => by
  unfold addC at hd
  split at hd
  ·rw [List.mem_cons] at hd
   rcases hd with rfl | hd
   ·split
    ·exact .inl rfl
    ·exact .inr ⟨c, by simp, rfl⟩
   ·exact .inr ⟨d, by simp [hd], rfl⟩
  ·rw [List.mem_cons] at hd
   rcases hd with rfl | hd
   ·exact .inr ⟨_, by simp, rfl⟩
   ·rcases addC_roots t r d hd with h | ⟨k, hk, h⟩
    ·exact .inl h
    ·exact .inr ⟨k, by simp [hk], h⟩
theorem addC_pos {L : List (Rat × Nat)} (h : ∀ c ∈ L, 0 < c.2) {t : Rat × Nat} (ht : 0 < t.2) : ∀ d ∈ addC L t, 0 < d.2 := fun d hd => by
 rcases addC_roots t L d hd with e | ⟨c, hc, e⟩
 ·rw [e]; exact ht
 ·rw [e]; exact h c hc
theorem addC_apart {t : Rat × Nat} (ht : 0 < t.2) : ∀ {L : List (Rat × Nat)}, (∀ c ∈ L, 0 < c.2) → Apart L → Apart (addC L t)
 | [], _, _ => by unfold addC Apart; simp
 | c :: r, hp, h => by
  have hc := hp c (by simp)
  unfold Apart at h
  rw [List.pairwise_cons] at h
  unfold addC
  by_cases hs : isSq ((t.2 : Rat) / (c.2 : Rat)) = true
  ·rw [if_pos hs]
   unfold Apart
   rw [List.pairwise_cons]
   refine ⟨fun d hd => ?_, h.2⟩
   have hd0 := hp d (by simp [hd])
   by_cases hl : t.2 < c.2
   ·rw [if_pos hl]
    exact fun k => h.1 d hd (sim_trans hd0 ht hc k hs).1
   ·rw [if_neg hl]
    exact h.1 d hd
  ·rw [if_neg hs]
   unfold Apart
   rw [List.pairwise_cons]
   refine ⟨fun d hd => ?_, addC_apart ht (fun c hc => hp c (by simp [hc])) h.2⟩
   rcases addC_roots t r d hd with e | ⟨k, hk, e⟩
   ·rw [e]; exact hs
   ·rw [e]; exact h.1 k hk
theorem VL_far (m : Nat) : ∀ {L : List (Rat × Nat)}, (∀ c ∈ L, ¬ Sim c.2 m) → VL m L = 0
 | [], _ => rfl
 | c :: r, h => by
  show cf m c + VL m r = 0
  rw [VL_far m (fun d hd => h d (by simp [hd]))]
  rw [cf_far (h c (by simp))]; grind
theorem VL_at : ∀ {L : List (Rat × Nat)}, (∀ c ∈ L, 0 < c.2) → Apart L → ∀ c ∈ L, VL c.2 L = c.1
 | [], _, _, c, hc => by simp at hc
 | d :: r, hp, h, c, hc => by
  unfold Apart at h
  rw [List.pairwise_cons] at h
  have hd := hp d (by simp)
  rw [List.mem_cons] at hc
  rcases hc with rfl | hc
  ·show cf c.2 c + VL c.2 r = c.1
   rw [VL_far c.2 (fun k hk => h.1 k hk)]
   obtain ⟨h1, h2⟩ := sim_refl hd
   rw [cf_sim h1, h2]; grind
  ·show cf c.2 d + VL c.2 r = c.1
   rw [VL_at (fun k hk => hp k (by simp [hk])) h.2 c hc]
   have hc0 := hp c (by simp [hc])
   rw [cf_far (fun k => h.1 c hc (sim_symm hd hc0 k))]; grind
theorem VL_zero {L : List (Rat × Nat)} (hp : ∀ c ∈ L, 0 < c.2) (ha : Apart L) (h : ∀ m, 0 < m → VL m L = 0) : outC L = [] := by
 unfold outC
 rw [List.filter_eq_nil_iff]
 intro c hc
 have h1 := VL_at hp ha c hc
 rw [h c.2 (hp c hc)] at h1
 simp [← h1]
theorem den_sq {u : Rat} {r : Nat} {z : Int} (h : u * u * (r : Rat) = (z : Rat)) : u.den * u.den ∣ r := by
 have h1 : u * (u.den : Rat) = (u.num : Rat) := mul_den_num u
 have h2 : ((u.num * u.num * (r : Int) : Int) : Rat) = ((z * ((u.den : Int) * u.den) : Int) : Rat) := by
  rw [Rat.intCast_mul, Rat.intCast_mul, Rat.intCast_mul, Rat.intCast_mul, Rat.intCast_natCast, Rat.intCast_natCast, ← h, ← h1]
  grind
 have h3 : u.num * u.num * (r : Int) = z * ((u.den : Int) * u.den) := by exact_mod_cast h2
 have h4 : u.num.natAbs * u.num.natAbs * r = z.natAbs * (u.den * u.den) := by
  have := congrArg Int.natAbs h3
  simpa [Int.natAbs_mul] using this
 have hc := u.reduced
 have hc2 : Nat.Coprime (u.den * u.den) (u.num.natAbs * u.num.natAbs) := Nat.Coprime.symm (Nat.Coprime.mul_left (Nat.Coprime.mul_right hc hc) (Nat.Coprime.mul_right hc hc))
 exact Nat.Coprime.dvd_of_dvd_mul_left hc2 ⟨z.natAbs, by rw [h4, Nat.mul_comm]⟩
theorem sq_den {u : Rat} {r : Nat} (h : u.den * u.den ∣ r) : ∃ z : Int, u * u * (r : Rat) = (z : Rat) := by
 obtain ⟨k, hk⟩ := h
 have h1 : u * (u.den : Rat) = (u.num : Rat) := mul_den_num u
 refine ⟨u.num * u.num * (k : Int), ?_⟩
 rw [hk, Rat.natCast_mul, Rat.natCast_mul, Rat.intCast_mul, Rat.intCast_mul, Rat.intCast_natCast, ← h1]
 grind
theorem den_add_dvd (u v : Rat) : (u + v).den ∣ Nat.lcm u.den v.den := by
 have hu := mul_den_num u
 have hv := mul_den_num v
 obtain ⟨a, ha⟩ := Nat.dvd_lcm_left u.den v.den
 obtain ⟨b, hb⟩ := Nat.dvd_lcm_right u.den v.den
 generalize Nat.lcm u.den v.den = L at *
 have h : (u + v) * (L : Rat) = ((u.num * (a : Int) + v.num * (b : Int) : Int) : Rat) := by
  rw [Rat.intCast_add, Rat.intCast_mul, Rat.intCast_mul, Rat.intCast_natCast, Rat.intCast_natCast, ← hu, ← hv, Rat.add_mul]
  have e1 : (L : Rat) = (u.den : Rat) * (a : Rat) := by rw [ha, Rat.natCast_mul]
  have e2 : (L : Rat) = (v.den : Rat) * (b : Rat) := by rw [hb, Rat.natCast_mul]
  have f1 : u * (L : Rat) = u * (u.den : Rat) * (a : Rat) := by rw [e1]; grind
  have f2 : v * (L : Rat) = v * (v.den : Rat) * (b : Rat) := by rw [e2]; grind
  rw [f1, f2]
 have hw := mul_den_num (u + v)
 have hc := (u + v).reduced
 generalize u + v = t at *
 generalize u.num * (a : Int) + v.num * (b : Int) = Z at *
 have h2 : ((t.num * (L : Int) : Int) : Rat) = ((Z * (t.den : Int) : Int) : Rat) := by
  rw [Rat.intCast_mul, Rat.intCast_mul, Rat.intCast_natCast, Rat.intCast_natCast, ← h, ← hw]; grind
 have h3 : t.num * (L : Int) = Z * (t.den : Int) := by exact_mod_cast h2
 have h4 : t.num.natAbs * L = Z.natAbs * t.den := by
  have := congrArg Int.natAbs h3
  simpa [Int.natAbs_mul] using this
 exact Nat.Coprime.dvd_of_dvd_mul_left (Nat.Coprime.symm hc) ⟨Z.natAbs, by rw [h4, Nat.mul_comm]⟩
theorem le_of_sq {p q : Rat} (hq : 0 ≤ q) (h : p * p ≤ q * q) : p ≤ q := by
 rcases (Rat.le_total : p ≤ q ∨ q ≤ p) with h1 | h1
 ·exact h1
 ·have h2 := Rat.mul_le_mul_of_nonneg_left h1 hq
  have h3 := Rat.mul_le_mul_of_nonneg_right h1 (Rat.le_trans hq h1)
  have h4 : q * q = p * p := Rat.le_antisymm (Rat.le_trans h2 h3) h
  have h5 : (p - q) * (p + q) = 0 := by grind
  rcases Rat.mul_eq_zero.1 h5 with h6 | h6
  ·have : p = q := by grind
   rw [this]; exact Rat.le_refl
  ·have : p = 0 := by
    have h7 : p ≤ 0 := by grind
    exact Rat.le_antisymm h7 (Rat.le_trans hq h1)
   rw [this]; exact hq
structure GC (K : Nat) (c : Rat × Nat) : Prop where
 norm : NormL c.2
 lt : c.2 < 10 ^ 6
 den : (4 * c.1).den * (4 * c.1).den ∣ c.2
 val : c.1 * c.1 * (c.2 : Rat) ≤ (K : Rat) * (K : Rat) * 48769
theorem GC.pos {K : Nat} {c : Rat × Nat} (h : GC K c) : 0 < c.2 := h.norm.1
theorem nat_nonneg (n : Nat) : (0 : Rat) ≤ (n : Rat) := by exact_mod_cast Nat.zero_le n
theorem GC.mono {K J : Nat} {c : Rat × Nat} (h : GC K c) (hk : K ≤ J) : GC J c := ⟨h.norm, h.lt, h.den, Rat.le_trans h.val (by
 have h1 : ((K * K * 48769 : Nat) : Rat) ≤ ((J * J * 48769 : Nat) : Rat) := by exact_mod_cast Nat.mul_le_mul_right _ (Nat.mul_le_mul hk hk)
 rw [Rat.natCast_mul, Rat.natCast_mul, Rat.natCast_mul, Rat.natCast_mul] at h1
 exact h1)⟩
theorem GC.plus {K J : Nat} {lo hi : Rat × Nat} (h : GC K lo) (k : GC J hi) (hs : Sim hi.2 lo.2) : GC (K + J) (plusC lo hi) := by
 obtain ⟨t0, ht⟩ := sim_parts k.pos h.pos hs
 obtain ⟨z1, e1⟩ := sq_den h.den
 obtain ⟨z2, e2⟩ := sq_den k.den
 have hv := h.val
 have kv := k.val
 have hp := h.pos
 refine ⟨h.norm, h.lt, ?_, ?_⟩
 ·show (4 * (lo.1 + hi.1 * sqR ((hi.2 : Rat) / (lo.2 : Rat)))).den * (4 * (lo.1 + hi.1 * sqR ((hi.2 : Rat) / (lo.2 : Rat)))).den ∣ lo.2
  generalize sqR ((hi.2 : Rat) / (lo.2 : Rat)) = t at *
  rw [show 4 * (lo.1 + hi.1 * t) = 4 * lo.1 + 4 * (hi.1 * t) by grind]
  have d2 : (4 * (hi.1 * t)).den * (4 * (hi.1 * t)).den ∣ lo.2 := den_sq (z := z2) (by rw [← e2, ht]; grind)
  have d1 := h.den
  have d3 := den_add_dvd (4 * lo.1) (4 * (hi.1 * t))
  have d4 : Nat.lcm (4 * lo.1).den (4 * (hi.1 * t)).den * Nat.lcm (4 * lo.1).den (4 * (hi.1 * t)).den ∣ lo.2 := by
   have h2 := Nat.lcm_dvd d1 d2
   rw [← Nat.pow_two, ← Nat.pow_two, Nat.pow_lcm_pow] at h2
   rw [← Nat.pow_two]; exact h2
  exact Nat.dvd_trans (Nat.mul_dvd_mul d3 d3) d4
 ·show (lo.1 + hi.1 * sqR ((hi.2 : Rat) / (lo.2 : Rat))) * (lo.1 + hi.1 * sqR ((hi.2 : Rat) / (lo.2 : Rat))) * (lo.2 : Rat) ≤ ((K + J : Nat) : Rat) * ((K + J : Nat) : Rat) * 48769
  generalize sqR ((hi.2 : Rat) / (lo.2 : Rat)) = t at *
  have kv2 : (hi.1 * t) * (hi.1 * t) * (lo.2 : Rat) ≤ (J : Rat) * (J : Rat) * 48769 := by
   have : (hi.1 * t) * (hi.1 * t) * (lo.2 : Rat) = hi.1 * hi.1 * (hi.2 : Rat) := by rw [ht]; grind
   rw [this]; exact kv
  have r0 := nat_nonneg lo.2
  generalize hi.1 * t = y at *
  generalize lo.1 = x at *
  have a0 : 0 ≤ x * x * (lo.2 : Rat) := Rat.mul_nonneg (sq_nonneg x) r0
  have b0 : 0 ≤ y * y * (lo.2 : Rat) := Rat.mul_nonneg (sq_nonneg y) r0
  have c0 : (0 : Rat) ≤ (K : Rat) * (J : Rat) * 48769 := Rat.mul_nonneg (Rat.mul_nonneg (nat_nonneg K) (nat_nonneg J)) (by decide)
  have m1 := Rat.mul_le_mul_of_nonneg_right hv b0
  have m2 := Rat.mul_le_mul_of_nonneg_left kv2 (Rat.le_trans a0 hv)
  have m3 := Rat.le_trans m1 m2
  have m4 : (x * y * (lo.2 : Rat)) * (x * y * (lo.2 : Rat)) ≤ ((K : Rat) * (J : Rat) * 48769) * ((K : Rat) * (J : Rat) * 48769) := by
   have g1 : (x * y * (lo.2 : Rat)) * (x * y * (lo.2 : Rat)) = x * x * (lo.2 : Rat) * (y * y * (lo.2 : Rat)) := by grind
   have g2 : ((K : Rat) * (J : Rat) * 48769) * ((K : Rat) * (J : Rat) * 48769) = (K : Rat) * (K : Rat) * 48769 * ((J : Rat) * (J : Rat) * 48769) := by grind
   rw [g1, g2]; exact m3
  have m5 := le_of_sq c0 m4
  rw [Rat.natCast_add]
  have g3 : (x + y) * (x + y) * (lo.2 : Rat) = x * x * (lo.2 : Rat) + y * y * (lo.2 : Rat) + (x * y * (lo.2 : Rat) + x * y * (lo.2 : Rat)) := by grind
  have g4 : ((K : Rat) + (J : Rat)) * ((K : Rat) + (J : Rat)) * 48769 = (K : Rat) * (K : Rat) * 48769 + (J : Rat) * (J : Rat) * 48769 + ((K : Rat) * (J : Rat) * 48769 + (K : Rat) * (J : Rat) * 48769) := by grind
  rw [g3, g4]
  generalize x * x * (lo.2 : Rat) = A at *
  generalize y * y * (lo.2 : Rat) = B at *
  generalize x * y * (lo.2 : Rat) = C at *
  generalize (K : Rat) * (K : Rat) * 48769 = A' at *
  generalize (J : Rat) * (J : Rat) * 48769 = B' at *
  generalize (K : Rat) * (J : Rat) * 48769 = C' at *
  clear m1 m2 m3 m4 g3 g4
  grind
theorem GC.neg {K : Nat} {x : Rat} {l : Nat} (h : GC K (x, l)) : GC K (-x, l) := by
 refine ⟨h.norm, h.lt, ?_, ?_⟩
 ·show (4 * -x).den * (4 * -x).den ∣ l
  rw [show 4 * -x = -(4 * x) by grind, rneg_den]; exact h.den
 ·show -x * -x * (l : Rat) ≤ _
  rw [show -x * -x * (l : Rat) = x * x * (l : Rat) by grind]; exact h.val
theorem GC.addC {K J : Nat} {t : Rat × Nat} (ht : GC J t) : ∀ {L : List (Rat × Nat)}, (∀ c ∈ L, GC K c) → ∀ d ∈ addC L t, GC (K + J) d
 | [], _, d, hd => by unfold Go.Proofs.YtedijdmenfcjlaaGreatDoor.addC at hd; rw [List.mem_singleton] at hd; subst hd; exact ht.mono (by omega)
 | c :: r, h, d, hd => by
  have hc := h c (by simp)
  unfold Go.Proofs.YtedijdmenfcjlaaGreatDoor.addC at hd
  split at hd
  ·next hs =>
   rw [List.mem_cons] at hd
   rcases hd with rfl | hd
   ·split
    ·exact (ht.plus hc (sim_symm ht.pos hc.pos hs)).mono (by omega)
    ·exact hc.plus ht hs
   ·exact (h d (by simp [hd])).mono (by omega)
  ·rw [List.mem_cons] at hd
   rcases hd with rfl | hd
   ·exact hc.mono (by omega)
   ·exact GC.addC ht (fun c hc => h c (by simp [hc])) d hd
theorem GC.base {s : Rat} (bs : Bd 6 s) (sp : 0 < s.num) {N : Nat} (hs : s = Rat.divInt (N : Int) ((4 : Nat) : Int)) (hN : N ≤ 195075) : GC 1 (aOf s, leftOf s) := by
 have hr := root_sq s sp
 have e4 : s * 4 = (N : Rat) := by
  rw [hs, Rat.divInt_eq_div, Rat.intCast_natCast, Rat.intCast_natCast, show ((4 : Nat) : Rat) = 4 from rfl]; grind
 have sd : s.den ≤ 4 := by rw [hs]; exact divInt_den_le (by decide)
 refine ⟨(term_of (bs.mono (by decide)) sp).norm, ?_, ?_, ?_⟩
 ·have h1 : s * (s.den : Rat) = (s.num : Rat) := mul_den_num s
  have h2 : ((s.num * 4 : Int) : Rat) = (((N : Int) * (s.den : Int) : Int) : Rat) := by
   rw [Rat.intCast_mul, Rat.intCast_mul, Rat.intCast_natCast, Rat.intCast_natCast, ← h1, ← e4, show ((4 : Int) : Rat) = 4 from rfl]; grind
  have h3 : s.num * 4 = (N : Int) * (s.den : Int) := by exact_mod_cast h2
  have hsn : ((s.num.toNat : Nat) : Int) = s.num := Int.toNat_of_nonneg (by omega)
  have h4 : s.num.toNat * 4 = N * s.den := by rw [← hsn] at h3; exact_mod_cast h3
  have hc : Nat.Coprime s.num.toNat s.den := by
   have := s.reduced
   rwa [show s.num.natAbs = s.num.toNat by omega] at this
  have h5 : s.num.toNat ∣ N := Nat.Coprime.dvd_of_dvd_mul_right hc ⟨4, h4.symm⟩
  have hN0 : 0 < N := by
   rcases Nat.eq_zero_or_pos N with h | h
   ·rw [h] at h4; omega
   ·exact h
  have h6 := Nat.le_of_dvd hN0 h5
  have h7 : s.num.toNat * s.den ≤ 195075 * 4 := Nat.mul_le_mul (Nat.le_trans h6 hN) sd
  have h8 := normM_le (m := s.num.toNat * s.den) (Nat.mul_pos (by omega) s.den_pos)
  show leftOf s < 10 ^ 6
  unfold leftOf
  omega
 ·exact den_sq (z := ((4 * N : Nat) : Int)) (by
   show 4 * aOf s * (4 * aOf s) * (leftOf s : Rat) = _
   rw [Rat.intCast_natCast, Rat.natCast_mul, show ((4 : Nat) : Rat) = 4 from rfl, ← e4, show 4 * aOf s * (4 * aOf s) * (leftOf s : Rat) = 16 * (aOf s * aOf s * (leftOf s : Rat)) by grind, hr]; grind)
 ·show aOf s * aOf s * (leftOf s : Rat) ≤ ((1 : Nat) : Rat) * ((1 : Nat) : Rat) * 48769
  rw [hr, show ((1 : Nat) : Rat) = 1 from rfl]
  have h1 : (N : Rat) ≤ ((195075 : Nat) : Rat) := by exact_mod_cast hN
  rw [show ((195075 : Nat) : Rat) = 195075 from rfl, ← e4] at h1
  grind
theorem GC.bd {K : Nat} {c : Rat × Nat} (h : GC K c) (hK : K ≤ 100) : Bd 8 c.1 ∧ c.1.den < 10 ^ 4 := by
 have hp := h.pos
 have hd : (4 * c.1).den < 1000 := by
  have h1 := Nat.le_of_dvd hp h.den
  have h2 := h.lt
  rcases Nat.lt_or_ge (4 * c.1).den 1000 with h3 | h3
  ·exact h3
  ·have := Nat.mul_le_mul h3 h3
   omega
 have hd2 : c.1.den ≤ 4 * (4 * c.1).den := by
  have e : c.1 = 4 * c.1 * (Rat.divInt 1 ((4 : Nat) : Int)) := by
   rw [Rat.divInt_eq_div, Rat.intCast_natCast, show ((4 : Nat) : Rat) = 4 from rfl, show ((1 : Int) : Rat) = 1 from rfl]; grind
  have h1 := den_mul_le (4 * c.1) (Rat.divInt 1 ((4 : Nat) : Int))
  rw [← e] at h1
  have h2 : (Rat.divInt 1 ((4 : Nat) : Int)).den ≤ 4 := divInt_den_le (by decide)
  have h3 := Nat.mul_le_mul_left (4 * c.1).den h2
  omega
 have hv := h.val
 have r1 : (1 : Rat) ≤ (c.2 : Rat) := by exact_mod_cast hp
 have s0 := sq_nonneg c.1
 have v1 := Rat.mul_le_mul_of_nonneg_left r1 s0
 rw [Rat.mul_one] at v1
 have v2 := Rat.le_trans v1 hv
 have v3 : (K : Rat) * (K : Rat) * 48769 ≤ ((22100 : Nat) : Rat) * ((22100 : Nat) : Rat) := by
  have h1 : K * K * 48769 ≤ 22100 * 22100 := by
   have := Nat.mul_le_mul hK hK
   omega
  have h2 : ((K * K * 48769 : Nat) : Rat) ≤ ((22100 * 22100 : Nat) : Rat) := by exact_mod_cast h1
  rw [Rat.natCast_mul, Rat.natCast_mul, Rat.natCast_mul] at h2
  exact h2
 have v4 := Rat.le_trans v2 v3
 have hm := mul_den_num c.1
 have hn : c.1.num.natAbs * c.1.num.natAbs ≤ (22100 * c.1.den) * (22100 * c.1.den) := by
  have d0 := nat_nonneg c.1.den
  have w1 := Rat.mul_le_mul_of_nonneg_right v4 (Rat.mul_nonneg d0 d0)
  have w2 : c.1 * c.1 * ((c.1.den : Rat) * (c.1.den : Rat)) = ((c.1.num * c.1.num : Int) : Rat) := by
   rw [Rat.intCast_mul, ← hm]; grind
  have w3 : ((22100 : Nat) : Rat) * ((22100 : Nat) : Rat) * ((c.1.den : Rat) * (c.1.den : Rat)) = (((22100 * c.1.den) * (22100 * c.1.den) : Nat) : Rat) := by
   rw [Rat.natCast_mul, Rat.natCast_mul]; grind
  rw [w2, w3, ← Int.natAbs_mul_self, Rat.intCast_natCast] at w1
  exact_mod_cast w1
 have hn2 : c.1.num.natAbs ≤ 22100 * c.1.den := by
  rcases Nat.lt_or_ge (22100 * c.1.den) c.1.num.natAbs with h1 | h1
  ·have := Nat.mul_lt_mul'' h1 h1
   omega
  ·exact h1
 exact ⟨⟨by omega, by omega⟩, by omega⟩
def addL (cs L : List (Rat × Nat)) : List (Rat × Nat) := L.foldl addC cs
theorem addL_cons (cs : List (Rat × Nat)) (c : Rat × Nat) (L : List (Rat × Nat)) : addL cs (c :: L) = addL (addC cs c) L := rfl
theorem clsT_norm (L : List (Rat × Nat)) (h : ∀ c ∈ L, NormL c.2) : clsT (L.map fun c => (c.1, (c.2 : Rat))) = addL [] L := by
 unfold clsT addL
 generalize ([] : List (Rat × Nat)) = cs
 induction L generalizing cs with
 | nil => rfl
 | cons c r ih =>
  rw [List.map_cons, List.foldl_cons, List.foldl_cons]
  obtain ⟨p1, p2⟩ := norm_parts (h c (by simp))
  simp only [p1, p2, Rat.mul_one]
  exact ih (fun d hd => h d (by simp [hd])) _
theorem VL_addL (m : Nat) (hm : 0 < m) : ∀ (L : List (Rat × Nat)) {cs : List (Rat × Nat)}, (∀ c ∈ cs, 0 < c.2) → (∀ c ∈ L, 0 < c.2) → VL m (addL cs L) = VL m cs + VL m L
 | [], cs, _, _ => by show VL m cs = VL m cs + 0; grind
 | c :: r, cs, h, k => by
  rw [addL_cons, VL_addL m hm r (addC_pos h (k c (by simp))) (fun d hd => k d (by simp [hd])), VL_add m hm c (k c (by simp)) cs h]
  show _ = VL m cs + (cf m c + VL m r)
  grind
theorem addL_apart : ∀ (L : List (Rat × Nat)) {cs : List (Rat × Nat)}, (∀ c ∈ cs, 0 < c.2) → (∀ c ∈ L, 0 < c.2) → Apart cs → Apart (addL cs L)
 | [], _, _, _, h => h
 | c :: r, _, h, k, ha => by
  rw [addL_cons]
  exact addL_apart r (addC_pos h (k c (by simp))) (fun d hd => k d (by simp [hd])) (addC_apart (k c (by simp)) h ha)
theorem GC.addL {J : Nat} : ∀ (L : List (Rat × Nat)) {K : Nat} {cs : List (Rat × Nat)}, (∀ c ∈ cs, GC K c) → (∀ c ∈ L, GC J c) → ∀ d ∈ addL cs L, GC (K + L.length * J) d
 | [], K, _, h, _, d, hd => (h d hd).mono (by simp)
 | c :: r, K, _, h, k, d, hd => by
  rw [addL_cons] at hd
  have h2 := GC.addL r (GC.addC (k c (by simp)) h) (fun d hd => k d (by simp [hd])) d hd
  exact h2.mono (by rw [List.length_cons, Nat.succ_mul]; omega)
theorem addL_len : ∀ (L cs : List (Rat × Nat)), (addL cs L).length ≤ cs.length + L.length
 | [], cs => by show cs.length ≤ _; simp
 | c :: r, cs => by
  rw [addL_cons]
  have h1 := addL_len r (addC cs c)
  have h2 := addC_len cs c
  rw [List.length_cons]; omega
theorem GC.root40 {K : Nat} {c : Rat × Nat} (h : GC K c) : Bd 40 (c.2 : Rat) := ⟨by rw [Rat.num_natCast, Int.natAbs_natCast]; exact Nat.lt_of_lt_of_le h.lt (by decide), by rw [Rat.den_natCast]; exact by decide⟩
theorem GC.term {K : Nat} {c : Rat × Nat} (h : GC K c) (hK : K ≤ 100) (h0 : c.1 ≠ 0) : Term1 c.1 c.2 := by
 have hb := (h.bd hK).1
 exact ⟨hb.rlim (by decide), h0, by have := longV_bd hb (by decide); omega, h.norm, h.root40⟩
theorem GC.cb {K : Nat} {c : Rat × Nat} (h : GC K c) (hK : K ≤ 100) : CB c := ⟨(h.bd hK).1.mono (by decide), h.pos, Nat.lt_of_lt_of_le h.lt (by decide)⟩
theorem GC.vt {K : Nat} {c : Rat × Nat} (h : GC K c) (hK : K ≤ 100) (h0 : c.1 ≠ 0) : VT (c.1, (c.2 : Rat)) := by
 obtain ⟨p1, p2⟩ := norm_parts h.norm
 exact ⟨h0, (h.bd hK).1.mono (by decide), by rw [Rat.num_natCast]; have := h.pos; omega, h.root40, by rw [p1, p2, Rat.mul_one]; exact h.cb hK⟩
theorem GC.lims {K : Nat} {c : Rat × Nat} (h : GC K c) (hK : K ≤ 100) : longV c.1 ≤ 60 ∧ longV (c.2 : Rat) ≤ 40 :=
 ⟨by have := longV_bd (h.bd hK).1 (by decide); omega, longV_bd h.root40 (by decide)⟩
end Go.Proofs.YtedijdmenfcjlaaGreatDoor
