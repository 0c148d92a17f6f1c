/-
  Walks: surd.visit and surd.Make at one term of small numbers.
-/
import Derived.Test.YtgkikkabmcihhaaGreatDoorWN
namespace Go.Proofs.YtgkikkabmcihhaaGreatDoor
open Go.RowKit Kp

set_option maxHeartbeats 400000 in
theorem insertionSort_one (ad : Option Addr) (cap : Nat) (f : Value) (w : World) :
    Calls Tryz.prog 215 #[.slice ad 1 cap, .int .i64 0, .int .i64 1, f] w fun e w' => (∃ v, e = .returned v) ∧ w = w' := by
  go_enter Tryz.func215, Tryz.ntmps215
  go_wp2
  go_loop [8] (fun i => i = .int .i64 1) (fun _ => 0)
  case atStart => rfl
  case round =>
    subst hrel
    go_wp2
    go_end0
    exact ⟨⟨_, rfl⟩, rfl⟩

set_option maxHeartbeats 400000 in
theorem pdqsort_one (ad : Option Addr) (cap : Nat) (k : Int) (f : Value) (w : World) :
    Calls Tryz.prog 147 #[.slice ad 1 cap, .int .i64 0, .int .i64 1, .int .i64 k, f] w fun e w' => (∃ v, e = .returned v) ∧ w = w' := by
  go_enter Tryz.func147, Tryz.ntmps147
  go_wp2
  go_loop [1, 2, 3] (fun x y _ => x = .int .i64 0 ∧ y = .int .i64 1) (fun _ _ _ => 0)
  case atStart => exact ⟨rfl, rfl⟩
  case round =>
    obtain ⟨rfl, rfl⟩ := hrel
    go_wp2_with fail
    refine (insertionSort_one ad cap f _).mono ?_
    rintro e w1 ⟨⟨v, rfl⟩, rfl⟩
    go_wp2
    (try simp only [Exit.inBlock, Exit.then])
    refine bodyPost_ret (results_none rfl _ _ _) rfl ?_
    exact ⟨⟨_, rfl⟩, rfl⟩

set_option maxHeartbeats 400000 in
theorem sortFunc_one (ad : Option Addr) (cap : Nat) (f : Value) (w : World) :
    Calls Tryz.prog 91 #[.slice ad 1 cap, f] w fun e w' => (∃ v, e = .returned v) ∧ w = w' := by
  go_enter Tryz.func91, Tryz.ntmps91
  go_wp2_with fail
  refine (Tryz.bits_Len _ _ (by omega) (by omega)).mono ?_
  rintro e w1 ⟨rfl, rfl⟩
  go_wp2_with fail
  refine (pdqsort_one ad cap _ f _).mono ?_
  rintro e w1 ⟨⟨v, rfl⟩, rfl⟩
  go_wp2
  go_end0
  exact ⟨⟨_, rfl⟩, rfl⟩

theorem rstr_nat (n : Nat) : rstr (n : Rat) = Lib.itoa (n : Int) := by
  unfold rstr; rw [if_pos (Rat.den_natCast n), Rat.num_natCast]
theorem rstr_zero : rstr 0 = [48] := by
  have := rstr_nat 0; rw [show ((0 : Nat) : Rat) = 0 from rfl] at this; rw [this]; exact itoa_zero
theorem rstr_one : rstr 1 = [49] := by
  have := rstr_nat 1; rw [show ((1 : Nat) : Rat) = 1 from rfl] at this; rw [this]; exact itoa_one

set_option maxRecDepth 100000 in
set_option maxHeartbeats 2000000 in
theorem surd_visit_one (c r a : Rat) (left : Nat) (hc : Small8 c) (hr : Small8 r) (hp : 0 < r.num) (hc0 : c ≠ 0) (hr1 : r ≠ 1) (ha : Rat.divInt (normM (r.num.toNat * r.den)).1 r.den = a) (hl : (normM (r.num.toNat * r.den)).2 = left)
    (ha8 : Small8 a) (hl8 : Small8 (left : Rat)) (_hca : Small8 (c * a)) (b G : Nat) (t : TypeId) (w : World) (hE : Env w) (hb : Blk w b [.string ⟨(rstr c).toArray⟩, .string ⟨(rstr r).toArray⟩] t) (_hbG : b < G) (hG : Blk w G [.slice none 0 0] 123) :
    Calls Tryz.prog 88 #[.slice (some ⟨b, 0, none⟩) 1 1, .func (.func 89) #[.pointer (some ⟨G, 0, none⟩)] #[]] w fun e w' => e = .returned (.int .i64 0) ∧ Below G w w' ∧
      ∃ v, Blk w' G [v] 123 ∧ w'.ownsRow (G + 1) 127 2 v 1 [.string ⟨(rstr (c * a)).toArray⟩, .string ⟨(rstr (left : Rat)).toArray⟩] := by
  have lb := hb.lt
  have lG := hG.lt
  have hcz : (rstr c == [48]) = false := by
    rw [beq_eq_false_iff_ne, ← rstr_zero]; exact fun h => hc0 (rstr_inj h)
  have hrz : (rstr r == [48]) = false := by
    rw [beq_eq_false_iff_ne, ← rstr_zero]; exact fun h => by have := rstr_inj h; subst this; simp at hp
  have hro : (rstr r == [49]) = false := by
    rw [beq_eq_false_iff_ne, ← rstr_one]; exact fun h => hr1 (rstr_inj h)
  have hN := root_Normal_small r hr hp
  rw [ha, hl, ← rstr_nat] at hN
  have HN := Lib.hid hN
  clear ha hl hN
  have hV := longV_small hl8
  have hV0 := longV_nonneg (left : Rat)
  go_enter Tryz.func88, Tryz.ntmps88
  go_wp2
  go_loopw [13] (fun i wr => (i = .int .i64 0 ∧ Q w wr) ∨ (i = .int .i64 1 ∧ Below G w wr ∧ ∃ v, Blk wr G [v] 123 ∧ wr.ownsRow (G + 1) 127 2 v 1 [.string ⟨(rstr (c * a)).toArray⟩, .string ⟨(rstr (left : Rat)).toArray⟩])) (fun i _ => 1 - (intOf i).toNat)
  case atStart => exact .inl ⟨rfl, Below.refl _ _⟩
  case round =>
    rcases hrel with ⟨rfl, hQ⟩ | ⟨rfl, hB, v, hv, hown⟩
    · have hB := hb.keep hQ lb
      have hGr := hG.keep hQ lG
      have c0 := hB.cell 0
      have c1 := hB.cell 1
      have f0 := hB.frozen 0
      have l1 := hB.lt
      simp only [List.getElem?_cons_zero, List.getElem?_cons_succ] at c0 c1
      go_wp2_with fail
      have BT := Blk.new wr [.string ⟨(rstr c).toArray⟩, .string ⟨(rstr r).toArray⟩] 66
      have t1 := BT.cell 1
      simp only [List.getElem?_cons_zero, List.getElem?_cons_succ] at t1
      have hq0 : Q w (wr.alloc (Obj.cells [.string ⟨(rstr c).toArray⟩, .string ⟨(rstr r).toArray⟩].toArray 66)) := hQ.alloc hQ.size _
      go_quiet (fail)
      go_wp2_with fail
      have hqn := Below.drewN hq0 nq
      refine (HN.out _ (hE.q hqn)).mono ?_
      rintro e w1 ⟨rfl, hq1⟩
      have hQ1 := hqn.trans (hq1.mono hqn.size)
      have B1 := (BT.drewN nq).keep hq1 (by simp)
      clear hq1 hqn hq0 BT t1 c0 c1 f0
      go_wp2_with fail
      refine (surd_longest (left : Rat) hl8 _ (hE.q hQ1)).mono ?_
      rintro e w2 ⟨rfl, hq2⟩
      have hQ2 := hQ1.trans (hq2.mono hQ1.size)
      have B2 := B1.keep hq2 B1.lt
      have d2 := B2.cell 0
      simp only [List.getElem?_cons_zero] at d2
      clear hq2 hQ1 B1
      have hV1 : longV (left : Rat) ≤ 90 := by omega
      go_wp2_with fail
      refine (rational_Mul_small c a hc ha8 _ (hE.q hQ2)).mono ?_
      rintro e w3 ⟨rfl, hq3⟩
      have hQ3 := hQ2.trans (hq3.mono hQ2.size)
      clear hq3 hQ2 B2 d2
      go_wp2_with fail
      have hG3 := hG.keep hQ3 lG
      refine (gatherer_add_empty G _ _ _ hG3).mono ?_
      rintro e w4 ⟨rfl, hB4, v, hv, hown⟩
      have hB5 : Below G w w4 := (hQ3.mono (Nat.le_of_lt lG)).trans hB4
      go_wp2
      go_roundw
      case rel => exact .inr ⟨rfl, hB5, v, hv, hown⟩
      case measure => simp [intOf]
    · go_wp2
      go_ret
      exact ⟨rfl, hB, v, hv, hown⟩

set_option maxRecDepth 100000 in
set_option maxHeartbeats 2000000 in
theorem surd_Make_one (c r a : Rat) (left : Nat) (hc : Small8 c) (hr : Small8 r) (hp : 0 < r.num) (hc0 : c ≠ 0) (hr1 : r ≠ 1) (ha : Rat.divInt (normM (r.num.toNat * r.den)).1 r.den = a) (hl : (normM (r.num.toNat * r.den)).2 = left)
    (ha8 : Small8 a) (hl8 : Small8 (left : Rat)) (hca : Small8 (c * a)) (hca0 : c * a ≠ 0) (b : Nat) (t : TypeId) (w : World) (hE : Env w) (hb : Blk w b [.string ⟨(rstr c).toArray⟩, .string ⟨(rstr r).toArray⟩] t) :
    Calls Tryz.prog 46 #[.slice (some ⟨b, 0, none⟩) 1 1] w fun e w' => ∃ v, e = .returned (.tuple #[v, .int .i64 0]) ∧ Q w w' ∧
      w'.ownsRow w.heap.size 66 2 v 1 [.string ⟨(rstr (c * a)).toArray⟩, .string ⟨(rstr (left : Rat)).toArray⟩] := by
  have l0 := hb.lt
  obtain ⟨i0, hi, hz0, hz1, hz2⟩ := info_of infoTerm
  have HI := Lib.hid hi
  have HZ := Lib.hid hz0
  have HS := Lib.hid hz1
  have HB := Lib.hid hz2
  clear hi hz0 hz1 hz2
  go_enter Tryz.func46, Tryz.ntmps46
  go_wp2
  go_loopw [18] (fun i wr => ∃ k : Nat, k ≤ 1 ∧ i = .int .i64 k ∧ Q w wr) (fun i _ => 1 - (intOf i).toNat)
  case atStart => exact ⟨0, by omega, rfl, Below.refl _ _⟩
  case round =>
    obtain ⟨k, hk, rfl, hQ⟩ := hrel
    rcases (show k = 0 ∨ k = 1 by omega) with rfl | rfl
    · have hB := hb.keep hQ l0
      have c0 := hB.cell 0
      have c1 := hB.cell 1
      have f0 := hB.frozen 0
      have l1 := hB.lt
      simp only [List.getElem?_cons_zero, List.getElem?_cons_succ] at c0 c1
      have hneg : decide ((rstr r).head? = some 45) = false := by rw [decide_eq_false_iff_not, rstr_head]; omega
      have HN := Lib.hid hneg
      clear hneg
      go_wp2_with fail
      have hq0 : Q w (wr.alloc (Obj.cells [.string ⟨(rstr c).toArray⟩, .string ⟨(rstr r).toArray⟩].toArray 66)) := hQ.alloc hQ.size _
      have BT := Blk.new wr [.string ⟨(rstr c).toArray⟩, .string ⟨(rstr r).toArray⟩] 66
      refine (rational_Check_small c hc _ (hE.q hq0)).mono ?_
      rintro e w1 ⟨rfl, hq1⟩
      have hQ1 := hq0.trans (hq1.mono hq0.size)
      have B1 := BT.keep hq1 (by simp)
      have d1 := B1.cell 1
      simp only [List.getElem?_cons_zero, List.getElem?_cons_succ] at d1
      clear hq1 hq0 BT c0 c1 f0
      go_wp2_with fail
      refine (rational_Check_small r hr _ (hE.q hQ1)).mono ?_
      rintro e w2 ⟨rfl, hq2⟩
      have hQ2 := hQ1.trans (hq2.mono hQ1.size)
      have B2 := B1.keep hq2 B1.lt
      have d2 := B2.cell 1
      simp only [List.getElem?_cons_zero, List.getElem?_cons_succ] at d2
      clear hq2 hQ1 B1 d1
      go_wp2_with fail
      refine (lib_HasMinus _ _).mono ?_
      rintro e w3 ⟨rfl, rfl⟩
      rw [HN.out]
      go_wp2
      go_roundw
      case rel => exact ⟨1, by omega, by go_num, hQ2⟩
      case measure => simp [intOf]
    · go_wp2_with fail
      have hBb := (hb.keep hQ l0).alloc (Obj.cells #[Value.slice none 0 0] 123)
      have hG := Blk.new wr [Value.slice none 0 0] 123
      refine (surd_visit_one c r a left hc hr hp hc0 hr1 ha hl ha8 hl8 hca b wr.heap.size t _ (hE.q (hQ.alloc hQ.size _)) hBb (by have := hQ.size; omega) hG).mono ?_
      rintro e w1 ⟨rfl, hB1, v, hv, hown⟩
      obtain ⟨g, cap, rfl, hg1, hg2⟩ := hown.form (by omega)
      have hQ1 : Q w w1 := (hQ.alloc hQ.size _).trans (hB1.mono hQ.size)
      have g0 := hv.cell 0
      simp only [List.getElem?_cons_zero] at g0
      have e0 := hown.cellAt 0 (by omega)
      have e1 := hown.cellAt 1 (by omega)
      have ef := hown.frozenAt 0
      have ef1 := hown.frozenAt 1
      simp only [List.getElem?_cons_zero, List.getElem?_cons_succ] at e0 e1
      have hcaz : (rstr (c * a) == [48]) = false := by
        rw [beq_eq_false_iff_ne, ← rstr_zero]; exact fun h => hca0 (rstr_inj h)
      have hV := longV_small hl8
      have hV0 := longV_nonneg (left : Rat)
      have hU := longV_small hca
      have hU0 := longV_nonneg (c * a)
      go_wp2_with fail
      go_loopw [10, 47] (fun o i wr2 => (o = .slice none 0 0 ∧ i = .int .i64 0 ∧ wr2 = w1) ∨ (i = .int .i64 1 ∧ Q w wr2 ∧ wr2.ownsRow w.heap.size 66 2 o 1 [.string ⟨(rstr (c * a)).toArray⟩, .string ⟨(rstr (left : Rat)).toArray⟩])) (fun _ i _ => 1 - (intOf i).toNat)
      case atStart => exact .inl ⟨rfl, rfl, rfl⟩
      case round =>
        rcases hrel with ⟨rfl, rfl, rfl⟩ | ⟨rfl, hQ2, hout⟩
        · go_wp2_with fail
          have BT := Blk.new wr [.string ⟨(rstr (c * a)).toArray⟩, .string ⟨(rstr (left : Rat)).toArray⟩] 127
          have hq0 := hQ1.alloc hQ1.size (Obj.cells [.string ⟨(rstr (c * a)).toArray⟩, .string ⟨(rstr (left : Rat)).toArray⟩].toArray 127)
          refine (surd_longest (c * a) hca _ (hE.q hq0)).mono ?_
          rintro e w2 ⟨rfl, hq2⟩
          have hQ2 := hq0.trans (hq2.mono hq0.size)
          have B2 := BT.keep hq2 BT.lt
          have d1 := B2.cell 1
          simp only [List.getElem?_cons_zero, List.getElem?_cons_succ] at d1
          clear hq0 hq2 BT e0 e1 ef ef1 g0 hown hv hg1 hg2
          go_wp2_with fail
          refine (surd_longest (left : Rat) hl8 _ (hE.q hQ2)).mono ?_
          rintro e w3 ⟨rfl, hq3⟩
          have hQ3 := hQ2.trans (hq3.mono hQ2.size)
          have B3 := B2.keep hq3 B2.lt
          have d0 := B3.cell 0
          have d2 := B3.cell 1
          simp only [List.getElem?_cons_zero, List.getElem?_cons_succ] at d0 d2
          clear hQ2 hq3 B2 d1
          have hnew := Blk.new w3 [.string ⟨(rstr (c * a)).toArray⟩, .string ⟨(rstr (left : Rat)).toArray⟩] 66
          have hsz3 : w.heap.size ≤ w3.heap.size := hQ3.size
          go_wp2_with (at_builtin; refine wpList_append_lies _ (by rfl) (.tmp 64) (.tmp 70) 25 (by rfl) w.heap.size 66 i0 _ 2 32 Tryz.underlying25 HI.out HZ.out HS.out HB.out rfl (by decide) (.slice none 0 0) 0 [] (by rfl) (World.ownsRow_nil _ _ _ _) ⟨w3.heap.size, 0, none⟩ 1 1 [.string ⟨(rstr (c * a)).toArray⟩, .string ⟨(rstr (left : Rat)).toArray⟩] (by rfl) (by rfl) (World.news_of_block (cs := #[.string ⟨(rstr (c * a)).toArray⟩, .string ⟨(rstr (left : Rat)).toArray⟩]) (t := 66) (fr := (0, 0)) hnew) (by simp [Value.oneCell']) (by decide) (by decide) (by decide) (by simp; omega) (w3.heap.size + 1) (by simp) ?_; intro g4 cap4 w4 hown4 hgrow4 hat4 hlt4)
          go_roundw
          case rel =>
            exact .inr ⟨rfl, (hQ3.alloc hQ3.size _).grown hgrow4 (by simp; omega) (by simp [Value.ownBlock]), hown4⟩
          case measure => simp [intOf]
        · obtain ⟨g', cap', rfl, hg1', hg2'⟩ := hout.form (by omega)
          go_wp2_with fail
          refine (sortFunc_one _ _ _ _).mono ?_
          rintro e w2 ⟨⟨u, rfl⟩, rfl⟩
          go_wp2
          go_ret2
          exact ⟨_, rfl, hQ2, hout⟩

end Go.Proofs.YtgkikkabmcihhaaGreatDoor
