/-
  Walks: root.nativeNormal.; Walks: root.check, of, negative, Normal at numbers with short parts.; Walks: root.Normal at numbers with short parts.; Walks: surd.visit and surd.Make at one term of small numbers.; Walks: timber.stretched, Square, Plumb at small numbers.
-/
import Derived.Test.YtohonlboaddppaaGreatDoorWF
import Derived.Test.YtohonlboaddppaaGreatDoorTimberM
import Derived.Deep.RegionHeld3
import Derived.Deep.AppendLies
import Derived.Lib.SmallJoins
namespace Go.Proofs.YtohonlboaddppaaGreatDoor
open Go.RowKit Kp
def primeArr : Array Value := (primeStrs.map fun s => Value.string ⟨s.toArray⟩).toArray
theorem dec_two {n : Nat} (h : n < 100) : Lib.decDigits n = if n < 10 then [UInt8.ofNat (48 + n)] else [UInt8.ofNat (48 + n / 10), UInt8.ofNat (48 + n % 10)] := by
  rw [Lib.decDigits]
  split
  · rfl
  · rw [Lib.decDigits, dif_pos (by omega)]; rfl
theorem primeStr_at (k : Nat) (h : k < 25) : primeStrs.getD k [] = Lib.itoa (primesL.getD k 0 : Int) := by
  have key : ∀ j : Fin 25, primesL.getD j.val 0 < 100 ∧ primeStrs.getD j.val [] = if primesL.getD j.val 0 < 10 then [UInt8.ofNat (48 + primesL.getD j.val 0)] else [UInt8.ofNat (48 + primesL.getD j.val 0 / 10), UInt8.ofNat (48 + primesL.getD j.val 0 % 10)] := by decide
  obtain ⟨h1, h2⟩ := key ⟨k, h⟩
  rw [← dec_eq_itoa, dec_two h1]; exact h2
theorem prime_bounds (k : Nat) (h : k < 25) : 2 ≤ primesL.getD k 0 ∧ primesL.getD k 0 ≤ 97 := by
  have : ∀ j : Fin 25, 2 ≤ primesL.getD j.val 0 ∧ primesL.getD j.val 0 ≤ 97 := by decide
  exact this ⟨k, h⟩
theorem prime_short (k : Nat) (h : k < 25) : (Lib.itoa (primesL.getD k 0 : Int)).length ≤ 17 := by
  have := prime_bounds k h
  have h2 : (Lib.decDigits (primesL.getD k 0)).length ≤ 2 := (decDigits_len_le _ 2 (by decide)).2 (by omega)
  rw [← dec_eq_itoa]; omega
theorem prime_index0 (k : Nat) (h : k = 0 ∨ k = 1 ∨ k = 2 ∨ k = 3 ∨ k = 4 ∨ k = 5 ∨ k = 6 ∨ k = 7 ∨ k = 8 ∨ k = 9 ∨ k = 10 ∨ k = 11 ∨ k = 12 ∨ k = 13 ∨ k = 14 ∨ k = 15 ∨ k = 16 ∨ k = 17 ∨ k = 18 ∨ k = 19 ∨ k = 20 ∨ k = 21 ∨ k = 22 ∨ k = 23 ∨ k = 24) (w : World) : (Instr.index 289 (.agg primeArr) (.int .i64 (k : Nat))).run Tryz.prog w = .ok (.string ⟨(primeStrs.getD k []).toArray⟩) w := by
  rcases h with rfl | rfl | rfl | rfl | rfl | rfl | rfl | rfl | rfl | rfl | rfl | rfl | rfl | rfl | rfl | rfl | rfl | rfl | rfl | rfl | rfl | rfl | rfl | rfl | rfl
  all_goals kernel_rfl
theorem prime_index (k : Nat) (h : k < 25) (w : World) : (Instr.index 289 (.agg primeArr) (.int .i64 (k : Nat))).run Tryz.prog w = .ok (.string ⟨(Lib.itoa (primesL.getD k 0 : Int)).toArray⟩) w := by
  rw [← primeStr_at k h]
  exact prime_index0 k (by omega) w
def NormRel (w : World) (n : Nat) (c l i : Value) (wr : World) : Prop :=
  ∃ (k a b : Nat), k ≤ 25 ∧ i = .int .i64 k ∧ c = .int .i64 a ∧ l = .int .i64 b ∧ stripAll (primesL.take k) (1, n) = (a, b) ∧ StripInv n a b ∧ Q w wr ∧ Env wr
def PrimeRel (w : World) (n k : Nat) (c l : Value) (wr : World) : Prop :=
  ∃ (a b : Nat), c = .int .i64 a ∧ l = .int .i64 b ∧ stripP (primesL.getD k 0) a b = stripAll (primesL.take (k + 1)) (1, n) ∧ StripInv n a b ∧ Q w wr ∧ Env wr
theorem StrsAt.row {w : World} {g : Nat} (h : StrsAt w g primeStrs) : ∃ t f, w.heap[g]? = some (.cells primeArr t f) := h
set_option maxRecDepth 100000 in
set_option maxHeartbeats 1000000 in
theorem root_nativeNormal (n d : Nat) (hn : 0 < n) (hd : 0 < d) (hnd : n * d < 100000000000000000) (w : World) (hE : Env w) :
    Calls Tryz.prog 147 #[.int .i64 n, .int .i64 d] w fun e w' => e = .returned (.tuple #[.string ⟨(rstr (Rat.divInt (normM (n * d)).1 d)).toArray⟩, .string ⟨(Lib.itoa ((normM (n * d)).2 : Int)).toArray⟩]) ∧ Q w w' := by
  obtain ⟨tp, fp, hrow⟩ := hE.primes.row
  have hm : 0 < n * d := Nat.mul_pos hn hd
  have hdl : d < 100000000000000000 := by
    have : 1 * d ≤ n * d := Nat.mul_le_mul_right _ hn
    omega
  have e0 : (n : Int) * (d : Int) = ((n * d : Nat) : Int) := by simp
  have E0 := Lib.hid e0
  have b1 : (n : Int) * (d : Int) ≤ 100000000000000000 := by rw [e0]; omega
  have b0 : 0 ≤ (n : Int) * (d : Int) := by rw [e0]; omega
  clear e0
  go_enter Tryz.func147, Tryz.ntmps147
  go_wp2_with (refine wpList_load_row rfl 289 _ rfl 1 rfl tp primeArr fp _ hrow Tryz.underlying289 rfl (by kernel_rfl) ?_)
  go_loopw [6, 7, 19] (NormRel w (n * d)) (fun _ _ i _ => 25 - (intOf i).toNat)
  case atStart => exact ⟨0, 1, n * d, by omega, rfl, rfl, by rw [E0.out], rfl, ⟨hm, by decide, by simp⟩, Below.refl _ _, hE⟩
  case round =>
    obtain ⟨k, a, b, hk, rfl, rfl, rfl, hs, hinv, hQ, hEr⟩ := hrel
    have HS := Lib.hid hs
    have HI := Lib.hid hinv
    clear hs hinv
    by_cases hlt : k < 25
    · have hidx := prime_index k hlt
      have hp := prime_bounds k hlt
      have hps := prime_short k hlt
      have HT := Lib.hid (stripAll_take_succ k hlt (1, n * d))
      generalize hpp : primesL.getD k 0 = p at *
      have HP := Lib.hid hpp
      clear hpp
      go_wp2_with (go_at_call 91; go_loud (refine (lib_Atoi (p : Int) (by omega) _).mono ?_); rintro e w1 ⟨rfl, hq1⟩)
      have hQ1 : Q w w1 := hQ.trans (hq1.mono hQ.size)
      have hE1 := hE.q hQ1
      clear hidx
      go_loopw [6, 7] (PrimeRel w (n * d) k) (fun _ l _ => (intOf l).toNat)
      case atStart => exact ⟨a, b, rfl, rfl, by rw [HT.out, HS.out, HP.out], HI.out, hQ1, hE1⟩
      case round =>
        obtain ⟨a', b', rfl, rfl, hs', hinv', hQ', hE'⟩ := hrel
        have HS' := Lib.hid hs'
        have HI' := Lib.hid hinv'
        have hb' := hinv'.bounds.1
        have ha' := hinv'.small hnd
        clear hs' hinv'
        have hpp0 : 4 ≤ p * p := Nat.mul_le_mul hp.1 hp.1
        have hpp1 : p * p ≤ 97 * 97 := Nat.mul_le_mul hp.2 hp.2
        have hap : a' * p ≤ 1000000000 * 97 := Nat.mul_le_mul (by omega) hp.2
        have c1 : (p : Int) * p = ((p * p : Nat) : Int) := by simp
        have c2 : (a' : Int) * p = ((a' * p : Nat) : Int) := by simp
        have d1 : (p : Int) * p ≤ 10000 := by rw [c1]; omega
        have d2 : 0 < (p : Int) * p := by rw [c1]; omega
        have d3 : (a' : Int) * p ≤ 100000000000 := by rw [c2]; omega
        have d4 : 0 ≤ (a' : Int) * p := by rw [c2]; omega
        have d5 : ((p : Int) * p == 0) = false := by simp; omega
        have c3 : (b' : Int) % ((p : Int) * p) = ((b' % (p * p) : Nat) : Int) := by simp
        have c4 : (b' : Int) / ((p : Int) * p) = ((b' / (p * p) : Nat) : Int) := by simp
        have d6 : 0 ≤ (b' : Int) / ((p : Int) * p) := Int.ediv_nonneg (by omega) (by omega)
        have hble : b' / (p * p) ≤ b' := Nat.div_le_self _ _
        have d7 : (b' : Int) / ((p : Int) * p) ≤ 100000000000000000 := Int.le_trans (Int.ediv_le_self _ (by omega)) (by omega)
        have C2 := Lib.hid c2
        have C4 := Lib.hid c4
        by_cases hz : b' % (p * p) = 0
        · have t : ((b' : Int) % ((p : Int) * p) == 0) = true := by rw [c3, hz]; rfl
          have HN := Lib.hid (HI'.out.next hp.1 hz)
          have hlt' : b' / (p * p) < b' := Nat.div_lt_self HI'.out.pos (by omega)
          have HY := Lib.hid (stripP_yes (c := a') hp.1 HI'.out.pos hz)
          clear c1 c2 c3 c4 hz
          go_wp2
          go_quiet (fail)
          go_wp2
          go_roundw
          case rel => exact ⟨a' * p, b' / (p * p), by rw [C2.out], by rw [C4.out], by rw [HP.out, ← HY.out]; rw [HP.out] at HS'; exact HS'.out, HN.out, Below.drewN hQ' _, hE'.drewN _⟩
          case measure => simp only [intOf]; rw [C4.out, Int.toNat_natCast, Int.toNat_natCast]; exact hlt'
        · have t : ((b' : Int) % ((p : Int) * p) == 0) = false := by rw [c3]; simp; omega
          have HY := Lib.hid (stripP_no (p := p) (c := a') (m := b') hz)
          clear c1 c2 c3 c4 hz
          go_wp2
          go_roundw
          case rel => exact ⟨k + 1, a', b', by omega, by go_num, rfl, rfl, by rw [← HS'.out, HP.out, HY.out], HI'.out, hQ', hE'⟩
          case measure => simp only [intOf]; omega
    · obtain rfl : k = 25 := by omega
      have hble := HI.out.bounds.1
      have hasm := HI.out.small hnd
      have hsq := (isqrt_spec b).1
      have hrle := isqrt_le b
      have HM : Hid (normM (n * d) = if isqrt b * isqrt b = b then (a * isqrt b, 1) else (a, b)) := Lib.hid (by
        unfold normM
        have e : stripAll primesL (1, n * d) = (a, b) := by rw [← HS.out]; rfl
        rw [e])
      have c1 : (isqrt b : Int) * (isqrt b : Int) = ((isqrt b * isqrt b : Nat) : Int) := by simp
      have d1 : (isqrt b : Int) * (isqrt b : Int) ≤ 100000000000000000 := by rw [c1]; omega
      have d2 : 0 ≤ (isqrt b : Int) * (isqrt b : Int) := by rw [c1]; omega
      have har : a * isqrt b < 100000000000000000 := by
        have e1 := HI.out.eq
        have e2 : (a * isqrt b) * (a * isqrt b) ≤ a * a * b := by
          have : (a * isqrt b) * (a * isqrt b) = a * a * (isqrt b * isqrt b) := by grind
          rw [this]; exact Nat.mul_le_mul_left _ hsq
        rcases Nat.lt_or_ge (a * isqrt b) 100000000000000000 with x | x
        · exact x
        · have : 1 * (a * isqrt b) ≤ (a * isqrt b) * (a * isqrt b) := Nat.mul_le_mul_right _ (by omega)
          omega
      have c2 : (a : Int) * (isqrt b : Int) = ((a * isqrt b : Nat) : Int) := by simp
      have d3 : (a : Int) * (isqrt b : Int) < 100000000000000000 := by rw [c2]; omega
      have d4 : 0 ≤ (a : Int) * (isqrt b : Int) := by rw [c2]; omega
      have HB := Lib.hid (root_nativeRoot b (by omega))
      have C2 := Lib.hid c2
      by_cases hz : isqrt b * isqrt b = b
      · have t : ((isqrt b : Int) * (isqrt b : Int) == (b : Int)) = true := by rw [c1, hz]; simp
        have HZ := Lib.hid hz
        clear c1 c2 hz hsq
        generalize isqrt b = r at *
        go_wp2_with fail
        refine (HB.out _).mono ?_
        rintro e w1 ⟨rfl, rfl⟩
        go_wp2_with fail
        refine (rational_Of_short _ d hd (by omega) (by omega) _ hEr).mono ?_
        rintro e w2 ⟨rfl, hq2⟩
        have hQ2 : Q w w2 := hQ.trans (hq2.mono hQ.size)
        go_wp2_with fail
        refine (lib_Itoa _ (by omega) (by omega) _ (hE.q hQ2)).mono ?_
        rintro e w3 ⟨rfl, hq3⟩
        go_wp2
        go_ret2
        exact ⟨by rw [HM.out, if_pos HZ.out]; simp only; rw [← C2.out]; rfl, hQ2.trans (hq3.mono hQ2.size)⟩
      · have t : ((isqrt b : Int) * (isqrt b : Int) == (b : Int)) = false := by rw [c1]; simp; omega
        have HZ := Lib.hid hz
        clear c1 c2 hz hsq
        generalize isqrt b = r at *
        go_wp2_with fail
        refine (HB.out _).mono ?_
        rintro e w1 ⟨rfl, rfl⟩
        go_wp2_with fail
        refine (rational_Of_short _ d hd (by omega) (by omega) _ hEr).mono ?_
        rintro e w2 ⟨rfl, hq2⟩
        have hQ2 : Q w w2 := hQ.trans (hq2.mono hQ.size)
        go_wp2_with fail
        refine (lib_Itoa _ (by omega) (by omega) _ (hE.q hQ2)).mono ?_
        rintro e w3 ⟨rfl, hq3⟩
        go_wp2
        go_ret2
        exact ⟨by rw [HM.out, if_neg HZ.out]; rfl, hQ2.trans (hq3.mono hQ2.size)⟩
end Go.Proofs.YtohonlboaddppaaGreatDoor
namespace Go.Proofs.YtohonlboaddppaaGreatDoor
open Go.RowKit Kp
theorem quiet_same {P : Program} {f : FuncId} {args : Array Value} {w : World} {n : Nat} {v : Value}
    (h : Calls P f args (w.drewN n) fun e w' => e = .returned v ∧ w.drewN n = w') : Calls P f args (w.drewN n) fun e w'' => e = .returned v ∧ ∃ m, w'' = w.drewN m :=
  h.mono fun _ _ ⟨he, hm⟩ => ⟨he, n, hm.symm⟩
def StrSl (w : World) (v : Value) (l : List Str) : Prop :=
  ∃ b off cap, v = .slice (some ⟨b, off, none⟩) l.length cap ∧ b < w.heap.size ∧ ∀ i, i < l.length → w.cell? ⟨b, off + i, none⟩ = some (.string ⟨(l.getD i []).toArray⟩)
set_option maxHeartbeats 400000 in
theorem root_negative (s : Str) (w : World) :
    Calls Tryz.prog 198 #[.string ⟨s.toArray⟩] w fun e w' => e = .returned (.bool (decide (s.head? = some 45))) ∧ w = w' := by
  go_enter Tryz.func198, Tryz.ntmps198
  go_wp2_with fail
  refine (lib_HasMinus s _).mono ?_
  rintro e w1 ⟨rfl, rfl⟩
  go_wp2
  go_ret
  exact ⟨rfl, rfl⟩
theorem ret_of (tmps : Array Value) (W : World) (b : Nat) (x y : Value) (hp : tmps.getD 2 undef = .pointer (some ⟨b, 0, none⟩))
    (c0 : W.cell? ⟨b, 0, none⟩ = some x) (c1 : W.cell? ⟨b, 1, none⟩ = some y) :
    (results Tryz.f145 tmps).run Tryz.prog W = .ok (.agg #[x, y]) W := by
  simp only [Array.getD_eq_getD_getElem?] at hp
  simp [results, Tryz.results145, go_sem, hp, c0, c1]
set_option maxHeartbeats 400000 in
theorem root_of_small (q : Rat) (h : Small8 q) (w : World) (hE : Env w) :
    Calls Tryz.prog 145 #[.string ⟨(rstr q).toArray⟩] w fun e w' => e = .returned (.agg #[.string ⟨(Lib.itoa q.num).toArray⟩, .string ⟨(Lib.itoa (q.den : Int)).toArray⟩]) ∧ Q w w' := by
  go_enter Tryz.func145, Tryz.ntmps145
  go_wp2_with fail
  refine (rational_Parts_small q h _ (hE.q bt)).mono ?_
  rintro e w1 ⟨rfl, hq1⟩
  have hQ1 : Q w w1 := (show Below w.heap.size w _ from bt).trans (hq1.mono (by simp))
  have B1 := (Blk.new w [.string ⟨#[]⟩, .string ⟨#[]⟩] 219).keep hq1 (by simp)
  have c0 := B1.cell 0
  have c1 := B1.cell 1
  have f0 := B1.frozen 0
  have f1 := B1.frozen 1
  have l1 := B1.lt
  simp only [List.getElem?_cons_zero, List.getElem?_cons_succ] at c0 c1
  go_wp2
  refine bodyPost_ret (v := .agg #[.string ⟨(Lib.itoa q.num).toArray⟩, .string ⟨(Lib.itoa (q.den : Int)).toArray⟩])
    (ret_of _ _ w.heap.size _ _ rfl (((B1.set 0 _).set 1 _).cell 0) (((B1.set 0 _).set 1 _).cell 1)) rfl ⟨rfl, ?_⟩
  exact (hQ1.setCell (p := ⟨w.heap.size, 0, none⟩) (Nat.le_refl _) _).setCell (p := ⟨w.heap.size, 1, none⟩) (Nat.le_refl _) _
theorem rstr_head (q : Rat) : (rstr q).head? = some 45 ↔ q.num < 0 := by
  unfold rstr; split
  · have := head_itoa q.num []; rw [List.append_nil] at this; exact this
  · exact head_itoa q.num _
set_option maxRecDepth 100000 in
set_option maxHeartbeats 1000000 in
theorem root_check_small (qs rs : List Rat) (hq8 : ∀ q ∈ qs, Small8 q) (v1 v2 : Value) (w : World) (hE : Env w) (h1 : StrSl w v1 (qs.map rstr)) (h2 : StrSl w v2 (rs.map rstr)) (hl1 : qs.length ≤ 100) (hl2 : rs.length ≤ 100) :
    Calls Tryz.prog 144 #[v1, v2] w fun e w' => e = .returned (.int .i64 (if ∀ q ∈ rs, 0 ≤ q.num then 0 else 2)) ∧ Q w w' := by
  obtain ⟨b1, o1, cap1, rfl, hb1, hc1⟩ := h1
  obtain ⟨b2, o2, cap2, rfl, hb2, hc2⟩ := h2
  rw [List.length_map] at hc1 hc2
  rw [List.length_map, List.length_map]
  generalize hans : (if ∀ q ∈ rs, 0 ≤ q.num then 0 else 2 : Int) = ans
  have hans1 : Hid ((∀ q ∈ rs, 0 ≤ q.num) → ans = 0) := Lib.hid (fun h => by rw [← hans, if_pos h])
  have hans2 : Hid ((¬ ∀ q ∈ rs, 0 ≤ q.num) → ans = 2) := Lib.hid (fun h => by rw [← hans, if_neg h])
  clear hans
  go_enter Tryz.func144, Tryz.ntmps144
  go_wp2
  go_loopw [13] (fun i wr => ∃ k : Nat, k ≤ qs.length ∧ i = .int .i64 k ∧ Q w wr ∧ Env wr) (fun i _ => qs.length - (intOf i).toNat)
  case atStart => exact ⟨0, by omega, rfl, Below.refl _ _, hE⟩
  case round =>
    obtain ⟨k, hk, rfl, hQ, hEr⟩ := hrel
    by_cases hlt : k < qs.length
    · have hcell := hc1 k hlt
      have hcell' : wr.cell? ⟨b1, o1 + k, none⟩ = some (.string ⟨((qs.map rstr).getD k []).toArray⟩) := by rw [hQ.cell (p := ⟨b1, o1 + k, none⟩) hb1]; exact hcell
      have hq : (qs.map rstr).getD k [] = rstr qs[k] := by rw [List.getD_eq_getElem?_getD, List.getElem?_map, List.getElem?_eq_getElem hlt]; rfl
      have h8 := hq8 qs[k] (List.getElem_mem hlt)
      rw [hq] at hcell'
      clear hcell hc1 hc2 hq8 hq
      generalize qs[k] = q at *
      have lq1 := itoa_len q.num (lim_small (by have := h8.1; omega))
      have ln1 : (unsig (Lib.itoa q.num)).length ≤ 8 := by rw [unsig_itoa]; exact (decDigits_len_le _ 8 (by decide)).2 (by have := h8.1; omega)
      have ld1 : (Lib.itoa (q.den : Int)).length ≤ 8 := by rw [← dec_eq_itoa]; exact (decDigits_len_le _ 8 (by decide)).2 (by have := h8.2; omega)
      go_wp2_with fail
      refine (rational_Check_small q h8 _ hEr).mono ?_
      rintro e w1 ⟨rfl, hq1⟩
      go_wp2_with fail
      refine (root_of_small q h8 _ (hEr.q hq1)).mono ?_
      rintro e w2 ⟨rfl, hq2⟩
      have hQ2 : Q w w2 := hQ.trans ((hq1.trans (hq2.mono hq1.size)).mono hQ.size)
      go_wp2_with fail
      go_quiet ((go_at_call 34; exact quiet_same (lib_TrimMinus _ _)))
      go_wp2
      go_roundw
      case rel => exact ⟨k + 1, by omega, by go_num, Below.drewN (hQ2.alloc hQ2.size _) _, hE.q (Below.drewN (hQ2.alloc hQ2.size _) _)⟩
      case measure => simp [intOf]; omega
    · obtain rfl : k = qs.length := by omega
      go_wp2
      go_loop [36] (fun i => ∃ k : Nat, k ≤ rs.length ∧ i = .int .i64 k ∧ ∀ q ∈ rs.take k, 0 ≤ q.num) (fun i => rs.length - (intOf i).toNat)
      case atStart => exact ⟨0, by omega, rfl, by simp⟩
      case round =>
        obtain ⟨k, hk, rfl, hall⟩ := hrel
        have HA := Lib.hid hall
        clear hall
        by_cases hlt : k < rs.length
        · have hcell := hc2 k hlt
          have hcell' : wr.cell? ⟨b2, o2 + k, none⟩ = some (.string ⟨((rs.map rstr).getD k []).toArray⟩) := by rw [hQ.cell (p := ⟨b2, o2 + k, none⟩) hb2]; exact hcell
          have hq : (rs.map rstr).getD k [] = rstr rs[k] := by rw [List.getD_eq_getElem?_getD, List.getElem?_map, List.getElem?_eq_getElem hlt]; rfl
          rw [hq] at hcell'
          have HR : Hid (rs[k].num < 0 → ¬ ∀ q ∈ rs, 0 ≤ q.num) := Lib.hid (fun hneg hx => by have := hx rs[k] (List.getElem_mem hlt); omega)
          have HN : Hid (¬ rs[k].num < 0 → ∀ q ∈ rs.take (k + 1), 0 ≤ q.num) := Lib.hid (fun hneg => by
              rw [List.take_succ_eq_append_getElem hlt]
              intro q hq
              rcases List.mem_append.1 hq with hq | hq
              · exact HA.out q hq
              · rw [List.mem_singleton] at hq; subst hq; omega)
          clear hcell hq hc1 hc2 hq8 HA
          generalize hqk : rs[k] = q at hcell' HR HN
          clear hqk
          by_cases hneg : q.num < 0
          · have hd : decide ((rstr q).head? = some 45) = true := by rw [decide_eq_true_eq, rstr_head]; exact hneg
            have HX : Hid (¬ ∀ q ∈ rs, 0 ≤ q.num) := Lib.hid (HR.out hneg)
            clear hneg HR HN
            go_wp2_with (go_at_call 198; go_loud (refine (root_negative _ _).mono ?_); rintro e w1 ⟨rfl, rfl⟩)
            go_ret
            exact ⟨ret_int (by rw [hans2.out HX.out]; all_goals rfl), hQ⟩
          · have hd : decide ((rstr q).head? = some 45) = false := by rw [decide_eq_false_iff_not, rstr_head]; exact hneg
            have HX : Hid (∀ q ∈ rs.take (k + 1), 0 ≤ q.num) := Lib.hid (HN.out hneg)
            clear hneg HR HN
            go_wp2_with (go_at_call 198; go_loud (refine (root_negative _ _).mono ?_); rintro e w1 ⟨rfl, rfl⟩)
            go_round
            case rel => exact ⟨k + 1, by omega, by go_num, HX.out⟩
            case measure => simp [intOf]; omega
        · have HR : Hid (∀ q ∈ rs, 0 ≤ q.num) := Lib.hid (by
            have := HA.out
            rw [List.take_of_length_le (by omega)] at this; exact this)
          clear hc1 hc2 hq8
          go_wp2
          go_ret
          exact ⟨ret_int (by rw [hans1.out HR.out]; all_goals rfl), hQ⟩
end Go.Proofs.YtohonlboaddppaaGreatDoor
namespace Go.Proofs.YtohonlboaddppaaGreatDoor
open Go.RowKit Kp
theorem StrSl.one {w : World} {b : Nat} {s : Str} {t : TypeId} (h : Blk w b [.string ⟨s.toArray⟩] t) : StrSl w (.slice (some ⟨b, 0, none⟩) 1 1) [s] := by
  refine ⟨b, 0, 1, rfl, h.lt, ?_⟩
  intro i hi
  obtain rfl : i = 0 := by simpa using hi
  exact h.cell 0
theorem itoa_ne_zero {n : Int} (h : 0 < n) : (Lib.itoa n == [48]) = false := by
  rw [beq_eq_false_iff_ne, ← itoa_zero]
  intro hx
  have := itoa_inj hx
  omega
theorem nativeNormal_int (x : Int) (d : Nat) (hn : 0 < x) (hd : 0 < d) (hnd : x.toNat * d < 100000000000000000) (w : World) (hE : Env w) :
    Calls Tryz.prog 147 #[.int .i64 x, .int .i64 d] w fun e w' => e = .returned (.tuple #[.string ⟨(rstr (Rat.divInt (normM (x.toNat * d)).1 d)).toArray⟩, .string ⟨(Lib.itoa ((normM (x.toNat * d)).2 : Int)).toArray⟩]) ∧ Q w w' := by
  obtain ⟨n, rfl⟩ : ∃ n : Nat, x = n := ⟨x.toNat, by omega⟩
  rw [Int.toNat_natCast] at *
  exact root_nativeNormal n d (by omega) hd hnd w hE
set_option maxRecDepth 100000 in
set_option maxHeartbeats 1000000 in
theorem root_Normal_small (q : Rat) (h : Small8 q) (hp : 0 < q.num) (w : World) (hE : Env w) :
    Calls Tryz.prog 111 #[.string ⟨(rstr q).toArray⟩] w fun e w' => e = .returned (.tuple #[.string ⟨(rstr (Rat.divInt (normM (q.num.toNat * q.den)).1 q.den)).toArray⟩, .string ⟨(Lib.itoa ((normM (q.num.toNat * q.den)).2 : Int)).toArray⟩, .int .i64 0]) ∧ Q w w' := by
  go_enter Tryz.func111, Tryz.ntmps111
  go_wp2_with fail
  have B1 := ((Blk.new w [.string ⟨(rstr q).toArray⟩] 22).alloc (.cells #[.string ⟨(rstr q).toArray⟩] 22))
  have B2 := Blk.new (w.alloc (.cells #[.string ⟨(rstr q).toArray⟩] 22)) [.string ⟨(rstr q).toArray⟩] 22
  have S2 := StrSl.one B2
  have e2 : (w.alloc (.cells #[.string ⟨(rstr q).toArray⟩] 22)).heap.size = w.heap.size + 1 := by simp
  rw [e2] at S2
  clear e2 B2
  refine (root_check_small [q] [q] (by intro x hx; rw [List.mem_singleton] at hx; subst hx; exact h) _ _ _ (hE.q bt) (StrSl.one B1) S2 (by simp) (by simp)).mono ?_
  have hc : (if ∀ x ∈ [q], 0 ≤ x.num then (0 : Int) else 2) = 0 := if_pos (by intro x hx; rw [List.mem_singleton] at hx; subst hx; omega)
  rw [hc]
  clear S2 B1 hc
  rintro e w1 ⟨rfl, hq1⟩
  have hQ1 : Q w w1 := (show Below w.heap.size w _ from bt).trans (hq1.mono (by simp; omega))
  clear hq1
  go_wp2_with fail
  refine (root_of_small q h _ (hE.q hQ1)).mono ?_
  rintro e w2 ⟨rfl, hq2⟩
  have hQ2 : Q w w2 := hQ1.trans (hq2.mono hQ1.size)
  have nz := itoa_ne_zero hp
  have lq1 : (Lib.itoa q.num).length ≤ 8 := by rw [show q.num = ((q.num.toNat : Nat) : Int) from by omega, ← dec_eq_itoa]; exact (decDigits_len_le _ 8 (by decide)).2 (by have := h.1; omega)
  have ld1 : (Lib.itoa (q.den : Int)).length ≤ 8 := by rw [← dec_eq_itoa]; exact (decDigits_len_le _ 8 (by decide)).2 (by have := h.2; omega)
  go_wp2_with fail
  have B1 := Blk.new w2 [.string ⟨(Lib.itoa q.num).toArray⟩, .string ⟨(Lib.itoa (q.den : Int)).toArray⟩] 219
  have hQ3 : Q w (w2.alloc (Obj.cells [.string ⟨(Lib.itoa q.num).toArray⟩, .string ⟨(Lib.itoa (q.den : Int)).toArray⟩].toArray 219)) := hQ2.alloc hQ2.size _
  refine (root_native q.num (by omega) _).mono ?_
  rintro e w3 ⟨rfl, hq3⟩
  have B3 := B1.keep hq3 (by simp)
  have hQ4 : Q w w3 := hQ3.trans (hq3.mono hQ3.size)
  have c1 := B3.cell 1
  simp only [List.getElem?_cons_zero, List.getElem?_cons_succ] at c1
  clear B1 hQ3 hq3
  go_wp2_with fail
  refine (root_native (q.den : Int) (by omega) _).mono ?_
  rintro e w4 ⟨rfl, hq4⟩
  have hQ5 : Q w w4 := hQ4.trans (hq4.mono hQ4.size)
  clear c1 B3 hQ4 hq4
  go_wp2_with fail
  have hnd : q.num.toNat * q.den < 100000000000000000 := by
    have h1 : q.num.toNat < 100000000 := by have := h.1; omega
    have := Nat.mul_lt_mul'' h1 h.2
    omega
  refine (nativeNormal_int q.num q.den hp q.den_pos hnd _ (hE.q hQ5)).mono ?_
  rintro e w5 ⟨rfl, hq5⟩
  have hQ6 : Q w w5 := hQ5.trans (hq5.mono hQ5.size)
  go_wp2
  go_ret3
  exact ⟨rfl, hQ6⟩
set_option maxHeartbeats 400000 in
theorem surd_digits (s : Str) (w : World) :
    Calls Tryz.prog 114 #[.string ⟨s.toArray⟩] w fun e w' => e = .returned (.int .i64 (unsig s).length) ∧ w = w' := by
  go_enter Tryz.func114, Tryz.ntmps114
  go_wp2_with fail
  refine (lib_TrimMinus s _).mono ?_
  rintro e w1 ⟨rfl, rfl⟩
  go_wp2
  go_ret
  exact ⟨rfl, rfl⟩
def longV (q : Rat) : Int := max ((unsig (Lib.itoa q.num)).length : Int) ((unsig (Lib.itoa (q.den : Int))).length : Int)
theorem longV_nonneg (q : Rat) : 0 ≤ longV q := by unfold longV; omega
theorem longV_small {q : Rat} (h : Small8 q) : longV q ≤ 8 := by
  have h1 : (unsig (Lib.itoa q.num)).length ≤ 8 := by rw [unsig_itoa]; exact (decDigits_len_le _ 8 (by decide)).2 (by have := h.1; omega)
  have h2 : (unsig (Lib.itoa (q.den : Int))).length ≤ 8 := by rw [unsig_itoa, Int.natAbs_natCast]; exact (decDigits_len_le _ 8 (by decide)).2 (by have := h.2; omega)
  unfold longV; omega
set_option maxHeartbeats 400000 in
theorem surd_longest (q : Rat) (h : Small8 q) (w : World) (hE : Env w) :
    Calls Tryz.prog 78 #[.string ⟨(rstr q).toArray⟩] w fun e w' => e = .returned (.int .i64 (longV q)) ∧ Q w w' := by
  go_enter Tryz.func78, Tryz.ntmps78
  go_wp2_with fail
  refine (rational_Parts_small q h _ hE).mono ?_
  rintro e w1 ⟨rfl, hq1⟩
  go_wp2_with fail
  refine (surd_digits _ _).mono ?_
  rintro e w2 ⟨rfl, rfl⟩
  go_wp2_with fail
  refine (surd_digits _ _).mono ?_
  rintro e w3 ⟨rfl, rfl⟩
  go_wp2
  go_ret
  exact ⟨rfl, hq1⟩
theorem infoClass : (Tryz.prog.info? 153).map (fun i => (i.zero, i.size, i.bytes)) = some (some (.agg #[.string ⟨#[]⟩, .string ⟨#[]⟩]), 2, 32) := by kernel_rfl
theorem infoTerm : (Tryz.prog.info? 68).map (fun i => (i.zero, i.size, i.bytes)) = some (some (.agg #[.string ⟨#[]⟩, .string ⟨#[]⟩]), 2, 32) := by kernel_rfl
theorem info_of {P : Program} {t : TypeId} {z : Value} {n m : Nat} (h : (P.info? t).map (fun i => (i.zero, i.size, i.bytes)) = some (some z, n, m)) : ∃ i, P.info? t = some i ∧ i.zero = some z ∧ i.size = n ∧ i.bytes = m := by
  cases hi : P.info? t with
  | none => rw [hi] at h; simp at h
  | some i => rw [hi] at h; simp at h; exact ⟨i, rfl, h.1, h.2.1, h.2.2⟩
theorem grow_facts {w w1 : World} {G T : Nat} {o x y : Value} (hg : w.grownBy w1 none) (hG : G < w.heap.size) (hT : T < w.heap.size) (hne : G ≠ T) (c : w.cell? ⟨G, 0, none⟩ = some o)
    (d0 : w.cell? ⟨T, 0, none⟩ = some x) (d1 : w.cell? ⟨T, 1, none⟩ = some y) (kf : w.frozen? ⟨G, 0, none⟩ = false) :
    w1.cell? ⟨G, 0, none⟩ = some o ∧ ∀ v, (w1.setCell ⟨G, 0, none⟩ v).cell? ⟨T, 0, none⟩ = some x ∧ (w1.setCell ⟨G, 0, none⟩ v).cell? ⟨T, 1, none⟩ = some y ∧ (w1.setCell ⟨G, 0, none⟩ v).frozen? ⟨G, 0, none⟩ = false := by
  refine ⟨(hg.cell_far _ hG (by simp)).trans c, fun v => ⟨?_, ?_, ?_⟩⟩
  · exact (World.cell?_setCell_other w1 ⟨G, 0, none⟩ ⟨T, 0, none⟩ v (by intro h; exact hne (congrArg Addr.block h))).trans ((hg.cell_far _ hT (by simp)).trans d0)
  · exact (World.cell?_setCell_other w1 ⟨G, 0, none⟩ ⟨T, 1, none⟩ v (by simp)).trans ((hg.cell_far _ hT (by simp)).trans d1)
  · rw [World.frozen?_setCell]; exact (hg.frozen_far _ hG (by simp)).trans kf
theorem grow_fz {w1 : World} {G T : Nat} {x y : Value} (h : ∀ v, (w1.setCell ⟨G, 0, none⟩ v).cell? ⟨T, 0, none⟩ = some x ∧ (w1.setCell ⟨G, 0, none⟩ v).cell? ⟨T, 1, none⟩ = some y ∧ (w1.setCell ⟨G, 0, none⟩ v).frozen? ⟨G, 0, none⟩ = false) : w1.frozen? ⟨G, 0, none⟩ = false := by
  have := (h (.int .i64 0)).2.2
  rw [World.frozen?_setCell] at this; exact this
theorem add_world {w w1 : World} {G g cap : Nat} {s1 s2 : Str} {A B : Obj} (hG : Blk w G [.slice none 0 0] 149) (hgrow : ((w.alloc A).alloc B).drew.grownBy w1 none)
    (hown : w1.ownsRow (G + 1) 153 2 (.slice (some ⟨g, 0, none⟩) 1 cap) 1 [.string ⟨s1.toArray⟩, .string ⟨s2.toArray⟩]) :
    Below G w (w1.setCell ⟨G, 0, none⟩ (.slice (some ⟨g, 0, none⟩) 1 cap)) ∧
      ∃ v, Blk (w1.setCell ⟨G, 0, none⟩ (.slice (some ⟨g, 0, none⟩) 1 cap)) G [v] 149 ∧ (w1.setCell ⟨G, 0, none⟩ (.slice (some ⟨g, 0, none⟩) 1 cap)).ownsRow (G + 1) 153 2 v 1 [.string ⟨s1.toArray⟩, .string ⟨s2.toArray⟩] := by
  have l0 := hG.lt
  have hl : G < ((w.alloc A).alloc B).drew.heap.size := by simp; omega
  have b1 : Below G w ((w.alloc A).alloc B).drew := (((Below.refl G w).alloc (by omega) A).alloc (by simp; omega) B).drew
  have b2 : Below G w w1 := b1.grown hgrow (by omega) (by simp)
  have bG : Blk w1 G [.slice none 0 0] 149 := (hgrow.block G hl (by simp)).trans ((hG.alloc A).alloc B)
  refine ⟨b2.setCell (p := ⟨G, 0, none⟩) (Nat.le_refl _) _, _, bG.set 0 _, ownsRow_setCell_below hown (by simp) _⟩
set_option maxRecDepth 100000 in
set_option maxHeartbeats 1000000 in
theorem gatherer_add_empty (G : Nat) (s1 s2 : Str) (w : World) (hG : Blk w G [.slice none 0 0] 149) :
    Calls Tryz.prog 77 #[.pointer (some ⟨G, 0, none⟩), .agg #[.string ⟨s1.toArray⟩, .string ⟨s2.toArray⟩]] w fun e w' => e = .returned (.int .i64 0) ∧ Below G w w' ∧
      ∃ v, Blk w' G [v] 149 ∧ w'.ownsRow (G + 1) 153 2 v 1 [.string ⟨s1.toArray⟩, .string ⟨s2.toArray⟩] := by
  have c0 := hG.cell 0
  have f0 := hG.frozen 0
  have l0 := hG.lt
  simp only [List.getElem?_cons_zero] at c0
  obtain ⟨i0, hi, hz0, hz1, hz2⟩ := info_of infoClass
  have HI := Lib.hid hi
  have HZ := Lib.hid hz0
  have HS := Lib.hid hz1
  have HB := Lib.hid hz2
  clear hi hz0 hz1 hz2
  go_enter Tryz.func77, Tryz.ntmps77
  go_wp2
  go_loop [19] (fun i => i = .int .i64 0) (fun _ => 0)
  case atStart => rfl
  case round =>
    subst hrel
    go_wp2
    have t0 := World.new_ne w ⟨G, 0, none⟩ c0
    have hsz : (w.alloc (Obj.cells #[.string ⟨s1.toArray⟩, .string ⟨s2.toArray⟩] 68)).heap.size = w.heap.size + 1 := by simp
    have BT := Blk.new w [.string ⟨s1.toArray⟩, .string ⟨s2.toArray⟩] 68
    have hnew : ((w.alloc (Obj.cells #[.string ⟨s1.toArray⟩, .string ⟨s2.toArray⟩] 68)).alloc (Obj.cells #[.string ⟨s1.toArray⟩, .string ⟨s2.toArray⟩] 153)).heap[w.heap.size + 1]? = some (.cells #[.string ⟨s1.toArray⟩, .string ⟨s2.toArray⟩] 153 (0, 0)) := by rw [← hsz]; exact heap_alloc_new _ _
    have k0 := (hG.alloc (Obj.cells #[.string ⟨s1.toArray⟩, .string ⟨s2.toArray⟩] 68)).cell 0
    have d0 := BT.cell 0
    have d1 := BT.cell 1
    have kf := (hG.alloc (Obj.cells #[.string ⟨s1.toArray⟩, .string ⟨s2.toArray⟩] 68)).frozen 0
    have k02 := ((hG.alloc (Obj.cells #[.string ⟨s1.toArray⟩, .string ⟨s2.toArray⟩] 68)).alloc (Obj.cells #[.string ⟨s1.toArray⟩, .string ⟨s2.toArray⟩] 153)).cell 0
    simp only [List.getElem?_cons_zero] at k02
    have d02 := (BT.alloc (Obj.cells #[.string ⟨s1.toArray⟩, .string ⟨s2.toArray⟩] 153)).cell 0
    have d12 := (BT.alloc (Obj.cells #[.string ⟨s1.toArray⟩, .string ⟨s2.toArray⟩] 153)).cell 1
    simp only [List.getElem?_cons_zero, List.getElem?_cons_succ] at d02 d12
    have hGT : G ≠ w.heap.size := by omega
    have hlG : G < ((w.alloc (Obj.cells #[.string ⟨s1.toArray⟩, .string ⟨s2.toArray⟩] 68)).alloc (Obj.cells #[.string ⟨s1.toArray⟩, .string ⟨s2.toArray⟩] 153)).heap.size := by simp; omega
    have hlT : w.heap.size < ((w.alloc (Obj.cells #[.string ⟨s1.toArray⟩, .string ⟨s2.toArray⟩] 68)).alloc (Obj.cells #[.string ⟨s1.toArray⟩, .string ⟨s2.toArray⟩] 153)).heap.size := by simp; omega
    have kf2 := ((hG.alloc (Obj.cells #[.string ⟨s1.toArray⟩, .string ⟨s2.toArray⟩] 68)).alloc (Obj.cells #[.string ⟨s1.toArray⟩, .string ⟨s2.toArray⟩] 153)).frozen 0
    have hQ0 : Below G w (w.alloc (Obj.cells #[.string ⟨s1.toArray⟩, .string ⟨s2.toArray⟩] 68)) := (Below.refl G w).alloc (by omega) _
    simp only [List.getElem?_cons_zero, List.getElem?_cons_succ] at k0 d0 d1
    go_region_law
      (first | (refine step_append_lies _ (by rfl) (.tmp 73) (.tmp 79) 147 (by rfl) (G + 1) 153 i0 _ 2 32 Tryz.underlying147 HI.out HZ.out HS.out HB.out rfl (by decide) (.slice none 0 0) 0 [] (by rfl) (World.ownsRow_nil _ _ _ _) ⟨w.heap.size + 1, 0, none⟩ 1 1 [.string ⟨s1.toArray⟩, .string ⟨s2.toArray⟩] (by rfl) (by rfl) (World.news_of_block (cs := #[.string ⟨s1.toArray⟩, .string ⟨s2.toArray⟩]) (t := 153) (fr := (0, 0)) hnew) (by simp [Value.oneCell']) (by decide) (by decide) (by decide) (by simp; omega) (w.heap.size + 2) (by simp) ?_; intro g cap w1 hown hgrow hat hlt; have hh := grow_facts (w1 := w1) (T := w.heap.size) (x := .string ⟨s1.toArray⟩) (y := .string ⟨s2.toArray⟩) hgrow hlG hlT hGT k02 d02 d12 kf2; have c1 := hh.1; have fz := grow_fz hh.2))
    all_goals go_wp2
    all_goals go_ret
    all_goals exact ⟨rfl, add_world hG hgrow hown⟩
end Go.Proofs.YtohonlboaddppaaGreatDoor
namespace Go.Proofs.YtohonlboaddppaaGreatDoor
open Go.RowKit Kp
set_option maxHeartbeats 400000 in
theorem insertionSort_one (ad : Option Addr) (cap : Nat) (f : Value) (w : World) :
    Calls Tryz.prog 153 #[.slice ad 1 cap, .int .i64 0, .int .i64 1, f] w fun e w' => (∃ v, e = .returned v) ∧ w = w' := by
  go_enter Tryz.func153, Tryz.ntmps153
  go_wp2
  go_loop [8] (fun i => i = .int .i64 1) (fun _ => 0)
  case atStart => rfl
  case round =>
    subst hrel
    go_wp2
    go_end0
    exact ⟨⟨_, rfl⟩, rfl⟩
set_option maxHeartbeats 400000 in
theorem pdqsort_one (ad : Option Addr) (cap : Nat) (k : Int) (f : Value) (w : World) :
    Calls Tryz.prog 115 #[.slice ad 1 cap, .int .i64 0, .int .i64 1, .int .i64 k, f] w fun e w' => (∃ v, e = .returned v) ∧ w = w' := by
  go_enter Tryz.func115, Tryz.ntmps115
  go_wp2
  go_loop [1, 2, 3] (fun x y _ => x = .int .i64 0 ∧ y = .int .i64 1) (fun _ _ _ => 0)
  case atStart => exact ⟨rfl, rfl⟩
  case round =>
    obtain ⟨rfl, rfl⟩ := hrel
    go_wp2_with fail
    refine (insertionSort_one ad cap f _).mono ?_
    rintro e w1 ⟨⟨v, rfl⟩, rfl⟩
    go_wp2
    (try simp only [Exit.inBlock, Exit.then])
    refine bodyPost_ret (results_none rfl _ _ _) rfl ?_
    exact ⟨⟨_, rfl⟩, rfl⟩
set_option maxHeartbeats 400000 in
theorem sortFunc_one (ad : Option Addr) (cap : Nat) (f : Value) (w : World) :
    Calls Tryz.prog 79 #[.slice ad 1 cap, f] w fun e w' => (∃ v, e = .returned v) ∧ w = w' := by
  go_enter Tryz.func79, Tryz.ntmps79
  go_wp2_with fail
  refine (Tryz.bits_Len _ _ (by omega) (by omega)).mono ?_
  rintro e w1 ⟨rfl, rfl⟩
  go_wp2_with fail
  refine (pdqsort_one ad cap _ f _).mono ?_
  rintro e w1 ⟨⟨v, rfl⟩, rfl⟩
  go_wp2
  go_end0
  exact ⟨⟨_, rfl⟩, rfl⟩
theorem rstr_nat (n : Nat) : rstr (n : Rat) = Lib.itoa (n : Int) := by
  unfold rstr; rw [if_pos (Rat.den_natCast n), Rat.num_natCast]
theorem rstr_zero : rstr 0 = [48] := by
  have := rstr_nat 0; rw [show ((0 : Nat) : Rat) = 0 from rfl] at this; rw [this]; exact itoa_zero
theorem rstr_one : rstr 1 = [49] := by
  have := rstr_nat 1; rw [show ((1 : Nat) : Rat) = 1 from rfl] at this; rw [this]; exact itoa_one
set_option maxRecDepth 100000 in
set_option maxHeartbeats 2000000 in
theorem surd_visit_one (c r a : Rat) (left : Nat) (hc : Small8 c) (hr : Small8 r) (hp : 0 < r.num) (hc0 : c ≠ 0) (hr1 : r ≠ 1) (ha : Rat.divInt (normM (r.num.toNat * r.den)).1 r.den = a) (hl : (normM (r.num.toNat * r.den)).2 = left)
    (ha8 : Small8 a) (hl8 : Small8 (left : Rat)) (_hca : Small8 (c * a)) (b G : Nat) (t : TypeId) (w : World) (hE : Env w) (hb : Blk w b [.string ⟨(rstr c).toArray⟩, .string ⟨(rstr r).toArray⟩] t) (_hbG : b < G) (hG : Blk w G [.slice none 0 0] 149) :
    Calls Tryz.prog 76 #[.slice (some ⟨b, 0, none⟩) 1 1, .func (.func 77) #[.pointer (some ⟨G, 0, none⟩)] #[]] w fun e w' => e = .returned (.int .i64 0) ∧ Below G w w' ∧
      ∃ v, Blk w' G [v] 149 ∧ w'.ownsRow (G + 1) 153 2 v 1 [.string ⟨(rstr (c * a)).toArray⟩, .string ⟨(rstr (left : Rat)).toArray⟩] := by
  have lb := hb.lt
  have lG := hG.lt
  have hcz : (rstr c == [48]) = false := by
    rw [beq_eq_false_iff_ne, ← rstr_zero]; exact fun h => hc0 (rstr_inj h)
  have hrz : (rstr r == [48]) = false := by
    rw [beq_eq_false_iff_ne, ← rstr_zero]; exact fun h => by have := rstr_inj h; subst this; simp at hp
  have hro : (rstr r == [49]) = false := by
    rw [beq_eq_false_iff_ne, ← rstr_one]; exact fun h => hr1 (rstr_inj h)
  have hN := root_Normal_small r hr hp
  rw [ha, hl, ← rstr_nat] at hN
  have HN := Lib.hid hN
  clear ha hl hN
  have hV := longV_small hl8
  have hV0 := longV_nonneg (left : Rat)
  go_enter Tryz.func76, Tryz.ntmps76
  go_wp2
  go_loopw [13] (fun i wr => (i = .int .i64 0 ∧ Q w wr) ∨ (i = .int .i64 1 ∧ Below G w wr ∧ ∃ v, Blk wr G [v] 149 ∧ wr.ownsRow (G + 1) 153 2 v 1 [.string ⟨(rstr (c * a)).toArray⟩, .string ⟨(rstr (left : Rat)).toArray⟩])) (fun i _ => 1 - (intOf i).toNat)
  case atStart => exact .inl ⟨rfl, Below.refl _ _⟩
  case round =>
    rcases hrel with ⟨rfl, hQ⟩ | ⟨rfl, hB, v, hv, hown⟩
    · have hB := hb.keep hQ lb
      have hGr := hG.keep hQ lG
      have c0 := hB.cell 0
      have c1 := hB.cell 1
      have f0 := hB.frozen 0
      have l1 := hB.lt
      simp only [List.getElem?_cons_zero, List.getElem?_cons_succ] at c0 c1
      go_wp2_with fail
      have BT := Blk.new wr [.string ⟨(rstr c).toArray⟩, .string ⟨(rstr r).toArray⟩] 68
      have t1 := BT.cell 1
      simp only [List.getElem?_cons_zero, List.getElem?_cons_succ] at t1
      have hq0 : Q w (wr.alloc (Obj.cells [.string ⟨(rstr c).toArray⟩, .string ⟨(rstr r).toArray⟩].toArray 68)) := hQ.alloc hQ.size _
      go_quiet (fail)
      go_wp2_with fail
      have hqn := Below.drewN hq0 nq
      refine (HN.out _ (hE.q hqn)).mono ?_
      rintro e w1 ⟨rfl, hq1⟩
      have hQ1 := hqn.trans (hq1.mono hqn.size)
      have B1 := (BT.drewN nq).keep hq1 (by simp)
      clear hq1 hqn hq0 BT t1 c0 c1 f0
      go_wp2_with fail
      refine (surd_longest (left : Rat) hl8 _ (hE.q hQ1)).mono ?_
      rintro e w2 ⟨rfl, hq2⟩
      have hQ2 := hQ1.trans (hq2.mono hQ1.size)
      have B2 := B1.keep hq2 B1.lt
      have d2 := B2.cell 0
      simp only [List.getElem?_cons_zero] at d2
      clear hq2 hQ1 B1
      have hV1 : longV (left : Rat) ≤ 90 := by omega
      go_wp2_with fail
      refine (rational_Mul_small c a hc ha8 _ (hE.q hQ2)).mono ?_
      rintro e w3 ⟨rfl, hq3⟩
      have hQ3 := hQ2.trans (hq3.mono hQ2.size)
      clear hq3 hQ2 B2 d2
      go_wp2_with fail
      have hG3 := hG.keep hQ3 lG
      refine (gatherer_add_empty G _ _ _ hG3).mono ?_
      rintro e w4 ⟨rfl, hB4, v, hv, hown⟩
      have hB5 : Below G w w4 := (hQ3.mono (Nat.le_of_lt lG)).trans hB4
      go_wp2
      go_roundw
      case rel => exact .inr ⟨rfl, hB5, v, hv, hown⟩
      case measure => simp [intOf]
    · go_wp2
      go_ret
      exact ⟨rfl, hB, v, hv, hown⟩
set_option maxRecDepth 100000 in
set_option maxHeartbeats 2000000 in
theorem surd_Make_one (c r a : Rat) (left : Nat) (hc : Small8 c) (hr : Small8 r) (hp : 0 < r.num) (hc0 : c ≠ 0) (hr1 : r ≠ 1) (ha : Rat.divInt (normM (r.num.toNat * r.den)).1 r.den = a) (hl : (normM (r.num.toNat * r.den)).2 = left)
    (ha8 : Small8 a) (hl8 : Small8 (left : Rat)) (hca : Small8 (c * a)) (hca0 : c * a ≠ 0) (b : Nat) (t : TypeId) (w : World) (hE : Env w) (hb : Blk w b [.string ⟨(rstr c).toArray⟩, .string ⟨(rstr r).toArray⟩] t) :
    Calls Tryz.prog 44 #[.slice (some ⟨b, 0, none⟩) 1 1] w fun e w' => ∃ v, e = .returned (.tuple #[v, .int .i64 0]) ∧ Q w w' ∧
      w'.ownsRow w.heap.size 68 2 v 1 [.string ⟨(rstr (c * a)).toArray⟩, .string ⟨(rstr (left : Rat)).toArray⟩] := by
  have l0 := hb.lt
  obtain ⟨i0, hi, hz0, hz1, hz2⟩ := info_of infoTerm
  have HI := Lib.hid hi
  have HZ := Lib.hid hz0
  have HS := Lib.hid hz1
  have HB := Lib.hid hz2
  clear hi hz0 hz1 hz2
  go_enter Tryz.func44, Tryz.ntmps44
  go_wp2
  go_loopw [18] (fun i wr => ∃ k : Nat, k ≤ 1 ∧ i = .int .i64 k ∧ Q w wr) (fun i _ => 1 - (intOf i).toNat)
  case atStart => exact ⟨0, by omega, rfl, Below.refl _ _⟩
  case round =>
    obtain ⟨k, hk, rfl, hQ⟩ := hrel
    rcases (show k = 0 ∨ k = 1 by omega) with rfl | rfl
    · have hB := hb.keep hQ l0
      have c0 := hB.cell 0
      have c1 := hB.cell 1
      have f0 := hB.frozen 0
      have l1 := hB.lt
      simp only [List.getElem?_cons_zero, List.getElem?_cons_succ] at c0 c1
      have hneg : decide ((rstr r).head? = some 45) = false := by rw [decide_eq_false_iff_not, rstr_head]; omega
      have HN := Lib.hid hneg
      clear hneg
      go_wp2_with fail
      have hq0 : Q w (wr.alloc (Obj.cells [.string ⟨(rstr c).toArray⟩, .string ⟨(rstr r).toArray⟩].toArray 68)) := hQ.alloc hQ.size _
      have BT := Blk.new wr [.string ⟨(rstr c).toArray⟩, .string ⟨(rstr r).toArray⟩] 68
      refine (rational_Check_small c hc _ (hE.q hq0)).mono ?_
      rintro e w1 ⟨rfl, hq1⟩
      have hQ1 := hq0.trans (hq1.mono hq0.size)
      have B1 := BT.keep hq1 (by simp)
      have d1 := B1.cell 1
      simp only [List.getElem?_cons_zero, List.getElem?_cons_succ] at d1
      clear hq1 hq0 BT c0 c1 f0
      go_wp2_with fail
      refine (rational_Check_small r hr _ (hE.q hQ1)).mono ?_
      rintro e w2 ⟨rfl, hq2⟩
      have hQ2 := hQ1.trans (hq2.mono hQ1.size)
      have B2 := B1.keep hq2 B1.lt
      have d2 := B2.cell 1
      simp only [List.getElem?_cons_zero, List.getElem?_cons_succ] at d2
      clear hq2 hQ1 B1 d1
      go_wp2_with fail
      refine (lib_HasMinus _ _).mono ?_
      rintro e w3 ⟨rfl, rfl⟩
      rw [HN.out]
      go_wp2
      go_roundw
      case rel => exact ⟨1, by omega, by go_num, hQ2⟩
      case measure => simp [intOf]
    · go_wp2_with fail
      have hBb := (hb.keep hQ l0).alloc (Obj.cells #[Value.slice none 0 0] 149)
      have hG := Blk.new wr [Value.slice none 0 0] 149
      refine (surd_visit_one c r a left hc hr hp hc0 hr1 ha hl ha8 hl8 hca b wr.heap.size t _ (hE.q (hQ.alloc hQ.size _)) hBb (by have := hQ.size; omega) hG).mono ?_
      rintro e w1 ⟨rfl, hB1, v, hv, hown⟩
      obtain ⟨g, cap, rfl, hg1, hg2⟩ := hown.form (by omega)
      have hQ1 : Q w w1 := (hQ.alloc hQ.size _).trans (hB1.mono hQ.size)
      have g0 := hv.cell 0
      simp only [List.getElem?_cons_zero] at g0
      have e0 := hown.cellAt 0 (by omega)
      have e1 := hown.cellAt 1 (by omega)
      have ef := hown.frozenAt 0
      have ef1 := hown.frozenAt 1
      simp only [List.getElem?_cons_zero, List.getElem?_cons_succ] at e0 e1
      have hcaz : (rstr (c * a) == [48]) = false := by
        rw [beq_eq_false_iff_ne, ← rstr_zero]; exact fun h => hca0 (rstr_inj h)
      have hV := longV_small hl8
      have hV0 := longV_nonneg (left : Rat)
      have hU := longV_small hca
      have hU0 := longV_nonneg (c * a)
      go_wp2_with fail
      go_loopw [10, 47] (fun o i wr2 => (o = .slice none 0 0 ∧ i = .int .i64 0 ∧ wr2 = w1) ∨ (i = .int .i64 1 ∧ Q w wr2 ∧ wr2.ownsRow w.heap.size 68 2 o 1 [.string ⟨(rstr (c * a)).toArray⟩, .string ⟨(rstr (left : Rat)).toArray⟩])) (fun _ i _ => 1 - (intOf i).toNat)
      case atStart => exact .inl ⟨rfl, rfl, rfl⟩
      case round =>
        rcases hrel with ⟨rfl, rfl, rfl⟩ | ⟨rfl, hQ2, hout⟩
        · go_wp2_with fail
          have BT := Blk.new wr [.string ⟨(rstr (c * a)).toArray⟩, .string ⟨(rstr (left : Rat)).toArray⟩] 153
          have hq0 := hQ1.alloc hQ1.size (Obj.cells [.string ⟨(rstr (c * a)).toArray⟩, .string ⟨(rstr (left : Rat)).toArray⟩].toArray 153)
          refine (surd_longest (c * a) hca _ (hE.q hq0)).mono ?_
          rintro e w2 ⟨rfl, hq2⟩
          have hQ2 := hq0.trans (hq2.mono hq0.size)
          have B2 := BT.keep hq2 BT.lt
          have d1 := B2.cell 1
          simp only [List.getElem?_cons_zero, List.getElem?_cons_succ] at d1
          clear hq0 hq2 BT e0 e1 ef ef1 g0 hown hv hg1 hg2
          go_wp2_with fail
          refine (surd_longest (left : Rat) hl8 _ (hE.q hQ2)).mono ?_
          rintro e w3 ⟨rfl, hq3⟩
          have hQ3 := hQ2.trans (hq3.mono hQ2.size)
          have B3 := B2.keep hq3 B2.lt
          have d0 := B3.cell 0
          have d2 := B3.cell 1
          simp only [List.getElem?_cons_zero, List.getElem?_cons_succ] at d0 d2
          clear hQ2 hq3 B2 d1
          have hnew := Blk.new w3 [.string ⟨(rstr (c * a)).toArray⟩, .string ⟨(rstr (left : Rat)).toArray⟩] 68
          have hsz3 : w.heap.size ≤ w3.heap.size := hQ3.size
          go_wp2_with (at_builtin; refine wpList_append_lies _ (by rfl) (.tmp 64) (.tmp 70) 62 (by rfl) w.heap.size 68 i0 _ 2 32 Tryz.underlying62 HI.out HZ.out HS.out HB.out rfl (by decide) (.slice none 0 0) 0 [] (by rfl) (World.ownsRow_nil _ _ _ _) ⟨w3.heap.size, 0, none⟩ 1 1 [.string ⟨(rstr (c * a)).toArray⟩, .string ⟨(rstr (left : Rat)).toArray⟩] (by rfl) (by rfl) (World.news_of_block (cs := #[.string ⟨(rstr (c * a)).toArray⟩, .string ⟨(rstr (left : Rat)).toArray⟩]) (t := 68) (fr := (0, 0)) hnew) (by simp [Value.oneCell']) (by decide) (by decide) (by decide) (by simp; omega) (w3.heap.size + 1) (by simp) ?_; intro g4 cap4 w4 hown4 hgrow4 hat4 hlt4)
          go_roundw
          case rel =>
            exact .inr ⟨rfl, (hQ3.alloc hQ3.size _).grown hgrow4 (by simp; omega) (by simp [Value.ownBlock]), hown4⟩
          case measure => simp [intOf]
        · obtain ⟨g', cap', rfl, hg1', hg2'⟩ := hout.form (by omega)
          go_wp2_with fail
          refine (sortFunc_one _ _ _ _).mono ?_
          rintro e w2 ⟨⟨u, rfl⟩, rfl⟩
          go_wp2
          go_ret2
          exact ⟨_, rfl, hQ2, hout⟩
end Go.Proofs.YtohonlboaddppaaGreatDoor
namespace Go.Proofs.YtohonlboaddppaaGreatDoor
open Go.RowKit Kp
theorem normM_400 : normM 400 = (20, 1) := by
  simp [normM, stripAll, primesL, stripP, isqrt]
theorem small_of {q : Rat} {n : Int} {d : Nat} (hn : q.num = n) (hd : q.den = d) (h : n.natAbs < 100000000 ∧ d < 100000000) : Small8 q := by
  unfold Small8; rw [hn, hd]; exact h
theorem s2516 : Small8 (25/16) := small_of (n := 25) (d := 16) (by kernel_rfl) (by kernel_rfl) (by decide)
theorem s54 : Small8 (5/4) := small_of (n := 5) (d := 4) (by kernel_rfl) (by kernel_rfl) (by decide)
theorem s1 : Small8 ((1 : Nat) : Rat) := small_of (n := 1) (d := 1) (by kernel_rfl) (by kernel_rfl) (by decide)
theorem num_ne {q r : Rat} (a b : Int) (ha : q.num = a) (hb : r.num = b) (h : a ≠ b) : q ≠ r := by
  intro e; rw [e, hb] at ha; exact h ha.symm
theorem num_pos {q : Rat} (a : Int) (ha : q.num = a) (h : 0 < a) : 0 < q.num := by rw [ha]; exact h
theorem m2516 : (25/16 : Rat).num.toNat * (25/16 : Rat).den = 400 := by kernel_rfl
theorem d25 : (16/25 : Rat).den = 25 := by kernel_rfl
theorem d16 : (25/16 : Rat).den = 16 := by kernel_rfl
theorem v54 : Rat.divInt ((20 : Nat) : Int) ((16 : Nat) : Int) = 5/4 := by kernel_rfl
theorem v1 : ((1 : Nat) : Rat) = 1 := by kernel_rfl
end Go.Proofs.YtohonlboaddppaaGreatDoor
