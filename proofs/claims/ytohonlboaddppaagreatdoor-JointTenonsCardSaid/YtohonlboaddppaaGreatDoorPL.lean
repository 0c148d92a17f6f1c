/-
  A plan of one ring: whether sides cross, whether its corners are right. Mathematics.; Walks of package plan, at a plan of one ring: whether its corners are right.; Regions that draw their order, in which rows of one's own grow.
-/
import Derived.Test.YtohonlboaddppaaGreatDoorPH
import Derived.LoopN
import Derived.Test.YtohonlboaddppaaGreatDoorPD
import Derived.Maps.AppendAt
namespace Go.Proofs.YtohonlboaddppaaGreatDoor
open Go.RowKit Go.Shelf Kp
def touch1 (r : List Sd) (i k : Nat) : Bool := !(((i : Int) - k == 1) || ((i : Int) - k == (r.length : Int) - 1)) && meetsF (boxF (arn r i)) (boxF (arn r k))
def cross1 (r : List Sd) : Bool := (List.range r.length).any fun i => (List.range i).any fun k => touch1 r i k
theorem ringB_len (r : List Sd) (n : Nat) : (ringB r n).length = r.length := by unfold ringB; rw [List.length_map, List.length_range]
theorem ringB_at {r : List Sd} {n i : Nat} (h : i < r.length) : boxAt (ringB r n) i = (boxF (arn r i), n, i) := by
  unfold boxAt ringB
  rw [List.getD_eq_getElem?_getD, List.getElem?_map, List.getElem?_range h]; rfl
theorem crossed_one (r : List Sd) : crossedF [r] = cross1 r := by
  have hb : boxesN [r] ([r] : List (List Sd)).length = ringB r 0 := rfl
  unfold crossedF cross1
  rw [hb, ringB_len, Bool.eq_iff_iff, List.any_eq_true, List.any_eq_true]
  have key : ∀ i, i < r.length → ∀ k, k < i → touchF [r] (boxAt (ringB r 0) i) (boxAt (ringB r 0) k) = touch1 r i k := fun i hi k hk => by
    rw [ringB_at hi, ringB_at (Nat.lt_trans hk hi)]
    rfl
  constructor
  · rintro ⟨i, hi, h⟩
    rw [List.any_eq_true] at h
    obtain ⟨k, hk, h⟩ := h
    refine ⟨i, hi, List.any_eq_true.2 ⟨k, hk, ?_⟩⟩
    rw [← key i (List.mem_range.1 hi) k (List.mem_range.1 hk)]; exact h
  · rintro ⟨i, hi, h⟩
    rw [List.any_eq_true] at h
    obtain ⟨k, hk, h⟩ := h
    refine ⟨i, hi, List.any_eq_true.2 ⟨k, hk, ?_⟩⟩
    rw [key i (List.mem_range.1 hi) k (List.mem_range.1 hk)]; exact h
theorem cross1_yes {r : List Sd} {i k : Nat} (hi : i < r.length) (hk : k < i) (h : touch1 r i k = true) : cross1 r = true :=
  List.any_eq_true.2 ⟨i, List.mem_range.2 hi, List.any_eq_true.2 ⟨k, List.mem_range.2 hk, h⟩⟩
def someN (r : List Sd) (k : Nat) : Bool := (List.range k).any fun i => !(arn r i).o.gable
theorem someN_succ (r : List Sd) (k : Nat) : someN r (k + 1) = (someN r k || !(arn r k).o.gable) := range_any_succ _ _
theorem joined_one (r : List Sd) : joinedF [r] = (joinF r && someN r r.length) := by
  unfold joinedF
  show ((List.range 1).all _ && (List.range 1).any _) = _
  simp only [List.range_succ, List.range_zero, List.nil_append, List.all_cons, List.all_nil, Bool.and_true, List.any_cons, List.any_nil, Bool.or_false]
  rfl
theorem join_yes {r : List Sd} (h : ∀ i, i < r.length → stepF (arn r i) = true) : joinF r = true := by
  unfold joinF
  rw [List.all_eq_true]
  exact fun i hi => h i (List.mem_range.1 hi)
theorem join_no {r : List Sd} {i : Nat} (hi : i < r.length) (h : stepF (arn r i) = false) : joinF r = false := by
  rw [Bool.eq_false_iff]
  intro hs
  unfold joinF at hs
  rw [List.all_eq_true] at hs
  have := hs i (List.mem_range.2 hi)
  rw [h] at this
  exact absurd this (by decide)
end Go.Proofs.YtohonlboaddppaaGreatDoor
namespace Go.Proofs.YtohonlboaddppaaGreatDoor
open Go.RowKit Go.Shelf Kp
attribute [local go_sem] Oper.semAt_some
set_option maxRecDepth 100000 in
set_option maxHeartbeats 4000000 in
theorem joined_in (r : List Sd) (hr : ∀ i, i < r.length → ArnOk (arn r i)) (hlen : r.length ≤ 1000) (hl0 : 0 < r.length) (v : Value) (w : World) (hv : RgSl w v [r]) :
    CallsIn Fence.wide 9 Tryz.prog 139 #[v] w fun e w' => e = .returned (.bool (joinF r && someN r r.length)) ∧ Q w w' := by
  obtain ⟨a0, cap0, rfl, hc⟩ := hv.ring (by simpa using hl0)
  obtain ⟨b0, o0, a, cap, rfl, hcell, hrow, hba⟩ := hc 0 (by simp)
  have hr0 : ringAt [r] 0 = r := rfl
  rw [hr0] at hcell hrow
  rw [Nat.add_zero] at hcell
  clear hc hv hr0
  simp only [List.length_cons, List.length_nil, Nat.zero_add]
  refine callsIn_of_wp_marks Tryz.func139 rfl trivial ?_ rfl
  simp only [Tryz.ntmps139, List.size_toArray, List.length_cons, List.length_nil, Nat.reduceAdd, Nat.reduceSub, Array.replicate_succ, Array.replicate_zero, List.push_toArray, List.append_toArray, List.nil_append, List.cons_append]
  refine wpIn_wide.2 ?_
  have hcw := qcell ((Below.refl _ w).alloc (Nat.le_refl _) (.cells #[.bool false] 4)) hcell
  have hcw2 := qcell ((Below.refl _ _).alloc (Nat.le_refl _) (.cells #[.bool false] 4)) hcw
  go_wp2
  refine wp_loop_rounds 2 ?_
  rw [rounds_succ]
  go_wp2_with fail
  refine (plan_sides a r.length cap _).mono ?_
  rintro e w2 ⟨rfl, rfl⟩
  obtain ⟨W2, hW2⟩ : ∃ W2, ((w.alloc (.cells #[.bool false] 4)).alloc (.cells #[.bool false] 4)).alloc (.cells #[.slice a r.length cap] 94) = W2 := ⟨_, rfl⟩
  have hq2 : Q w W2 := by rw [← hW2]; exact bt
  have hs2 : W2.heap.size = w.heap.size + 3 := by rw [← hW2]; simp
  have bR : Boxed W2 w.heap.size 4 (.bool false) := by
    have := ((Boxed.new w 4 (.bool false)).alloc (.cells #[.bool false] 4)).alloc (.cells #[.slice a r.length cap] 94)
    rw [hW2] at this; exact this
  have bO : Boxed W2 (w.heap.size + 1) 4 (.bool (someN r 0)) := by
    have := (Boxed.new (w.alloc (.cells #[.bool false] 4)) 4 (.bool false)).alloc (.cells #[.slice a r.length cap] 94)
    rw [World.size_alloc, hW2] at this; exact this
  have bS : Boxed W2 (w.heap.size + 2) 94 (.slice a r.length cap) := by
    have := Boxed.new ((w.alloc (.cells #[.bool false] 4)).alloc (.cells #[.bool false] 4)) 94 (.slice a r.length cap)
    rw [World.size_alloc, World.size_alloc, hW2] at this; exact this
  rw [World.size_alloc, World.size_alloc, hW2]
  clear hW2 hcw hcw2
  have hrow2 := hrow.q hq2
  go_wp2_with fail
  refine (wpIn_wide (n := 9)).1 ?_
  refine wpIn_rangeFunc_up (m := 9) (gf := 227) (lb := #[.pointer (some ⟨w.heap.size + 1 + 1, 0, none⟩)]) (by omega) rfl (enters_of Tryz.func227 (by kernel_rfl) rfl)
    (sides_next (w.heap.size + 1 + 1) r a cap hlen W2 8 (by omega) bS.cell hrow2) (fun k hk => by
      rw [List.mem_cons] at hk
      rcases hk with rfl | hk
      · omega
      · have := hba k hk; omega) (fun _ => rfl)
    (fun k W => Boxed W w.heap.size 4 (.bool false) ∧ Boxed W (w.heap.size + 1) 4 (.bool (someN r k)) ∧ (∀ i, i < k → stepF (arn r i) = true) ∧ Q w W)
    (fun c W => c = .ret ∧ Boxed W w.heap.size 4 (.bool false) ∧ joinF r = false ∧ Q w W)
    (fun k W W' h kc hb => ⟨boxed_kc h.1 kc, boxed_kc h.2.1 kc, h.2.2.1, Below.trans h.2.2.2 (hb.mono hq2.size)⟩) (fun c W W' h kc hb => ⟨h.1, boxed_kc h.2.1 kc, h.2.2.1, Below.trans h.2.2.2 (hb.mono hq2.size)⟩) ⟨bR, bO, fun i hi => absurd hi (Nat.not_lt_zero _), hq2⟩
    (fun x a1 W => ∃ b, w.heap.size + 3 ≤ b ∧ a1 = { tmps := #[.slice (some ⟨b0, o0, none⟩) 1 cap0, undef, .pointer (some ⟨w.heap.size, 0, none⟩), .pointer (some ⟨w.heap.size + 1, 0, none⟩), undef, .slice a r.length cap, undef, .pointer (some ⟨b, 0, none⟩), .slice (some ⟨b0, o0, none⟩) 1 cap0, .int .i64 1, .int .i64 0, .bool true, .pointer (some ⟨b0, o0, none⟩), .slice a r.length cap, .slice a r.length cap, .func (.func 227) #[] #[.pointer (some ⟨w.heap.size + 1 + 1, 0, none⟩)], .int .i64 (x.1 : Nat), .agg (arnC (arn r x.1)).toArray, undef, undef, undef, undef, undef, undef, undef, undef, undef, undef, undef, undef, undef, undef, undef, undef, undef, undef, undef, undef, undef, undef, undef, undef, undef, undef, undef, undef, undef, undef, undef], defers := [] } ∧ Blk W b (arnC (arn r x.1)) 273)
    (fun x a1 W W' h kc => by
      obtain ⟨b, h1, h2, h3⟩ := h
      exact ⟨b, h1, h2, h3.kc kc⟩)
    ?assign ?body ?done ?stop
  case assign =>
    intro l x W K hW hK
    have hst := fun W => store_arn (arn r x.1) W
    have hk := hK _ (W.alloc (.cells (arnC (arn r x.1)).toArray 273)) ((Below.refl _ W).alloc (Nat.le_refl _) _) ⟨W.heap.size, by omega, rfl, Blk.new W _ _⟩
    clear hK
    gi_wp2
    exact hk
  case stop =>
    rintro D c W hD ⟨rfl, hb, hjf, hQ⟩ hK
    have c0 := hb.cell
    gi_wp2
    have kc := KC.put (.deferred none) hK rfl
    refine ⟨by simp, .inl ⟨_, _, rfl, run_takeDeferred hK, ?_⟩⟩
    exact ⟨_, results_bool _ 2 rfl _ _ w.heap.size _ rfl (boxed_kc hb kc).cell, by rw [hjf]; rfl, Below.trans hQ (below_put (by omega) hK _)⟩
  case body =>
    rintro l k hk a1 W ⟨hbR, hbO, hall, hQ⟩ ⟨b, hbb, rfl, hA⟩
    simp only at hA ⊢
    have hok := hr k hk
    have HN : Hid (stepF (arn r k) = true → ∀ i, i < k + 1 → stepF (arn r i) = true) := Lib.hid (fun h i hi => by
      rcases Nat.lt_or_ge i k with h1 | h1
      · exact hall i h1
      · obtain rfl : i = k := by omega
        exact h)
    have HY : Hid (stepF (arn r k) = false → joinF r = false) := Lib.hid (join_no hk)
    have hsn := someN_succ r k
    obtain ⟨so', hso'⟩ : ∃ x, someN r (k + 1) = x := ⟨_, rfl⟩
    rw [hso'] at hsn
    have HSO := Lib.hid hso'
    clear hso'
    generalize someN r k = so at *
    clear hall
    have hst : stepF (arn r k) = (leftF (arn r k) || !((arn r k).o.gable || ((arn r k).b.gable || ((arn r k).o.plate != (arn r k).b.plate)))) := rfl
    generalize stepF (arn r k) = sf at *
    generalize arn r k = ar at *
    have HL := Lib.hid (fun w => plan_left ar hok w)
    generalize leftF ar = lf at *
    have d4 : W.cell? ⟨b, 4, none⟩ = some (.bool ar.b.gable) := hA.cell 4
    have d5 : W.cell? ⟨b, 5, none⟩ = some (.int .i64 ar.b.plate) := hA.cell 5
    have d11 : W.cell? ⟨b, 11, none⟩ = some (.bool ar.o.gable) := hA.cell 11
    have d12 : W.cell? ⟨b, 12, none⟩ = some (.int .i64 ar.o.plate) := hA.cell 12
    have cO := hbO.cell
    have fO := hbO.frozen
    have hb1 : b ≠ w.heap.size + 1 := by omega
    have A1 := hA.setOther (b' := w.heap.size + 1) (by omega) 0 (.bool so')
    have bO1 := hbO.set (.bool so')
    have bR1 := boxed_far hbR (g := w.heap.size + 1) (by omega) 0 (.bool so')
    have hQ1 : Q w (W.setCell ⟨w.heap.size + 1, 0, none⟩ (.bool so')) := hQ.setCell (p := ⟨w.heap.size + 1, 0, none⟩) (by simp) _
    have kf1 : KeepsFrom W2.heap.size W (W.setCell ⟨w.heap.size + 1, 0, none⟩ (.bool so')) := (KeepsOthers.setCell _ _ _).from _
    have kb1 : KeepB ((w.heap.size + 1 + 1) :: blkOf a) W (W.setCell ⟨w.heap.size + 1, 0, none⟩ (.bool so')) := KeepB.set _ (fun k hk => by
      rw [List.mem_cons] at hk
      rcases hk with rfl | hk
      · omega
      · have := hba k hk; omega) _ _
    cases so <;> cases hog : ar.o.gable
    all_goals
      rw [hog] at d11 hst hsn
      simp only [Bool.true_or, Bool.false_or, Bool.not_true, Bool.not_false] at hsn
      subst hsn
      gi_wp2_with (refine wpListIn_load_row rfl 273 (.tmp 7) rfl b rfl A1 _ Tryz.underlying273 rfl (by kernel_rfl) ?_)
      refine ⟨trivial, ?_⟩
      with_reducible refine CallsIn.mono (CallsIn.inRound l (callsIn_wide.2 (HL.out _))) ?_
      rintro e w5 ⟨rfl, hq5⟩
      have A5 := A1.keep hq5 A1.lt
      have bO5 := boxed_kc bO1 (KC.q hq5)
      have bR5 := boxed_kc bR1 (KC.q hq5)
      have hQ5 : Q w w5 := Below.trans hQ1 (hq5.mono hQ1.size)
      have kf5 : KeepsFrom W2.heap.size W w5 := kf1.trans ((KeepsOthers.of_grownBy (grownBy_q hq5 none) (fun j o e => by cases e)).from _)
      have kb5 := kb1.trans (KeepB.q (bs := (w.heap.size + 1 + 1) :: blkOf a) hq5)
      have e4 : w5.cell? ⟨b, 4, none⟩ = some (.bool ar.b.gable) := A5.cell 4
      have e5 : w5.cell? ⟨b, 5, none⟩ = some (.int .i64 ar.b.plate) := A5.cell 5
      have e11 : w5.cell? ⟨b, 11, none⟩ = some (.bool ar.o.gable) := A5.cell 11
      have e12 : w5.cell? ⟨b, 12, none⟩ = some (.int .i64 ar.o.plate) := A5.cell 12
      rw [hog] at e11
      have r5 := bR5.cell
      have f5 := bR5.frozen
      have bR6 := bR5.set (.bool false)
      have hQ6 : Q w (w5.setCell ⟨w.heap.size, 0, none⟩ (.bool false)) := hQ5.setCell (p := ⟨w.heap.size, 0, none⟩) (by simp) _
      have kf6 : KeepsFrom W2.heap.size W (w5.setCell ⟨w.heap.size, 0, none⟩ (.bool false)) := kf5.trans ((KeepsOthers.setCell _ _ _).from _)
      clear A1 A5 bO1 bR1 hA hbO hbR d4 d5 d11 d12 HL hQ1 kf1 kb1 hq5
      cases lf
      · simp only [Bool.false_or, Bool.true_or, Bool.not_true] at hst
        first
          | (have hs : sf = false := hst
             gi_wp2
             exact ⟨kf6, rfl, bR6, HY.out hs, hQ6⟩)
          | (cases hbg : ar.b.gable
             · rw [hbg] at e4 hst
               by_cases hpl : ar.o.plate = ar.b.plate
               · have hs : sf = true := by rw [hst, hpl]; simp
                 have hp1 : (ar.o.plate != ar.b.plate) = false := by rw [hpl]; simp
                 have hp2 : (ar.o.plate == ar.b.plate) = true := by rw [hpl]; simp
                 gi_wp2
                 exact ⟨kf5, kb5, bR5, by rw [HSO.out]; exact bO5, HN.out hs, hQ5⟩
               · have hs : sf = false := by rw [hst]; simpa using hpl
                 have hp1 : (ar.o.plate != ar.b.plate) = true := by simpa using hpl
                 have hp2 : (ar.o.plate == ar.b.plate) = false := by simpa using hpl
                 gi_wp2
                 exact ⟨kf6, rfl, bR6, HY.out hs, hQ6⟩
             · rw [hbg] at e4 hst
               have hs : sf = false := hst
               gi_wp2
               exact ⟨kf6, rfl, bR6, HY.out hs, hQ6⟩)
      · have hs : sf = true := hst
        gi_wp2
        exact ⟨kf5, kb5, bR5, by rw [HSO.out]; exact bO5, HN.out hs, hQ5⟩
  case done =>
    rintro D W hD ⟨hbR, hbO, hall, hQ⟩ hK
    have hjf := join_yes hall
    have c3 := hbO.cell
    have c2 := hbR.cell
    have f2 := hbR.frozen
    obtain ⟨so, hso⟩ : ∃ x, someN r r.length = x := ⟨_, rfl⟩
    rw [hso] at hbO c3
    have HSO := Lib.hid hso
    clear hso
    have hK2 := (KeepsOthers.setCell W ⟨w.heap.size, 0, none⟩ (.bool so)).same D _ hK rfl
    have kc := KC.put (.deferred none) hK2 rfl
    have hQ2 : Q w (W.setCell ⟨w.heap.size, 0, none⟩ (.bool so)) := hQ.setCell (p := ⟨w.heap.size, 0, none⟩) (by simp) _
    have bR2 := hbR.set (.bool so)
    go_wp2
    rw [rounds_succ]
    go_wp2
    refine ⟨by simp, .inl ⟨_, _, rfl, run_takeDeferred hK2, ?_⟩⟩
    exact ⟨_, results_bool _ 2 rfl _ _ w.heap.size _ rfl (boxed_kc bR2 kc).cell, by rw [hjf, HSO.out]; rfl, Below.trans hQ2 (below_put (by omega) hK2 _)⟩
theorem plan_joined (r : List Sd) (hr : ∀ i, i < r.length → ArnOk (arn r i)) (hlen : r.length ≤ 1000) (hl0 : 0 < r.length) (v : Value) (w : World) (hv : RgSl w v [r]) :
    Calls Tryz.prog 139 #[v] w fun e w' => e = .returned (.bool (joinedF [r])) ∧ Q w w' := by
  rw [joined_one]
  exact callsIn_wide.1 (joined_in r hr hlen hl0 v w hv)
theorem arnOk_of {r : List Sd} (h : ∀ s ∈ r, Rgd s) (i : Nat) (hi : i < r.length) : ArnOk (arn r i) := by
  have hn : 0 < r.length := by omega
  have key : ∀ j, j < r.length → 0 ≤ (sdAt r j).x ∧ (sdAt r j).x ≤ 65536 ∧ 0 ≤ (sdAt r j).y ∧ (sdAt r j).y ≤ 65536 := fun j hj => by
    have := h (sdAt r j) (by rw [sdAt_get hj]; exact List.getElem_mem hj)
    exact ⟨this.x0, this.x1, this.y0, this.y1⟩
  exact ⟨key _ (Nat.mod_lt _ hn), key _ hi, key _ (Nat.mod_lt _ hn)⟩
structure OneOk (r : List Sd) : Prop where
  four : 4 ≤ r.length
  le : r.length ≤ 24
  rg : ∀ s ∈ r, Rgd s
  ranged : (r.any fun s => !rangedF s) = false
  shaped : (([r] : List (List Sd)).any fun r => !shapedF r) = false
  cross : crossedF [r] = false
  placed : placedF [r] = true
  joined : joinedF [r] = true
theorem oneOk_of {r : List Sd} (h : planE [r] = 0) : OneOk r := by
  have ok := planE_ok h
  have hfl : ([r] : List (List Sd)).flatten = r := by simp
  have hcf : countF [r] = r.length := by unfold countF; simp
  have h4 := ok.four r (by simp)
  have hle := ok.le
  rw [hcf] at hle
  unfold planE at h
  rw [hfl] at h
  by_cases h1 : (([r] : List (List Sd)).any fun r => decide (r.length = 0)) = true
  · rw [if_pos h1] at h; omega
  rw [if_neg h1] at h
  by_cases h2 : countF [r] = 0
  · rw [if_pos h2] at h; omega
  rw [if_neg h2] at h
  by_cases h3 : 24 < countF [r]
  · rw [if_pos h3] at h; omega
  rw [if_neg h3] at h
  by_cases h5 : (r.any fun s => !rangedF s) = true
  · rw [if_pos h5] at h; omega
  rw [if_neg h5] at h
  by_cases h6 : (([r] : List (List Sd)).any fun r => !shapedF r) = true
  · rw [if_pos h6] at h; omega
  rw [if_neg h6] at h
  by_cases h7 : crossedF [r] = true
  · rw [if_pos h7] at h; omega
  rw [if_neg h7] at h
  by_cases h8 : (!placedF [r] || !joinedF [r]) = true
  · rw [if_pos h8] at h; omega
  simp only [Bool.or_eq_true, Bool.not_eq_true', not_or, Bool.not_eq_false] at h8
  exact ⟨h4, hle, fun s hs => ok.rg s (by rw [hfl]; exact hs), by simpa using h5, by simpa using h6, by simpa using h7, h8.1, h8.2⟩
end Go.Proofs.YtohonlboaddppaaGreatDoor
namespace Go.Proofs.YtohonlboaddppaaGreatDoor
open Go.RowKit Go Kp
theorem ownsRow_low {w : World} {B B' size n : Nat} {e : TypeId} {v : Value} {xs : List Value} (h : w.ownsRow B e size v n xs) (hB : B' ≤ B) : w.ownsRow B' e size v n xs := by
  refine ⟨h.1, h.2.elim .inl ?_⟩
  rintro ⟨g, cap, cur, hv, hg, r⟩
  exact .inr ⟨g, cap, cur, hv, Nat.le_trans hB hg, r⟩
theorem opwp_append_at {P : Program} (w : World) {o : Oper} {a : Act} {K : Act → World → Prop} {R : Exit → Act → World → Prop} (s x : Operand) (t : TypeId)
    (ho : o.op = .call { callee := .builtin .append, args := #[s, x], argTypes := #[t, t] })
    (base : Nat) (e : TypeId) (i : TypeInfo) (z : Value) (size bytes : Nat) (ht : P.underlying t = some (.slice e)) (hi : P.info? e = some i) (hz : i.zero = some z)
    (hsize : i.size = size) (hby : i.bytes = bytes) (hzs : z.cells.size = size) (hsz : 0 < size)
    (v : Value) (n : Nat) (xs : List Value) (hs : a.eval s = v) (hown : w.ownsRow base e size v n xs)
    (ad : Addr) (m c : Nat) (news : List Value) (hx : a.eval x = .slice (some ad) m c) (hl : news.length = m * size) (hnews : ∀ j u, news[j]? = some u → w.cell? (ad.add j) = some u) (h1 : ∀ u ∈ news, u.oneCell' = true)
    (h63 : n + m ≤ maxLen) (hbytes : (n + m) * bytes ≤ 140737488355328) (hbase : base ≤ w.heap.size)
    (h : ∀ v' w', w'.ownsRow base e size v' (n + m) (xs ++ news) → w.grownBy w' v.ownBlock → K (a.put o.dst v') w') : Oper.wp P o a w K R := by
  obtain ⟨v', w', hr, h2, h3, h4, h5⟩ := run_append_own_at (P := P) w base t o.type e i z size bytes ht hi hz hsize hby hzs hsz v n xs hown ad m c news hl hnews h1 h63 hbytes hbase
  unfold Oper.wp execOp
  simp only [ho, resolve, invoke, builtin, Sem.run_bind, Sem.run_pure, Result.andThen_ok, List.map_toArray, List.map_cons, List.map_nil, hs, hx, hr]
  exact h v' w' h2 h3
theorem RF.steadily_make {ρ : QRel} {P : Program} {l : List Oper} {R : Exit → Act → World → Prop} {md : Region.Mode} {n i : Nat} {oi : Oper} {f : Nat} {ls : Array Bool} {a : Act} {w : World} (val : World → Value) (o : Obj) (hi : l[i]? = some oi) (hin : decide (i < n) = true)
    (hr : Region.ready md l.toArray ls = [i]) (hw : Region.wanted oi (yielded l.toArray a.tmps) = true)
    (hx : ∀ w', Q w w' → (execOp a.eval oi).run P w' = .ok (.value (val w')) (w'.alloc o))
    (h : ∀ w', Q w w' → RF.Steadily ρ P md l R n f (ls.setIfInBounds i true) (a.put oi.dst (val w')) (w'.alloc o)) : RF.Steadily ρ P md l R n (f + 1) ls a w :=
  RF.steadily_one hi hin hr hw fun w' hq K hK => by
    unfold Oper.wp
    rw [hx w' hq]
    exact hK _ _ (ρ.q ((Below.refl _ _).alloc (Nat.le_refl _) _)) (h w' hq)
theorem RF.steadily_both {ρ : QRel} {P : Program} {l : List Oper} {R : Exit → Act → World → Prop} {md : Region.Mode} {n i j : Nat} {oi oj : Oper} {f : Nat} {ls : Array Bool} {a : Act} {w : World} (hi : l[i]? = some oi) (hj : l[j]? = some oj) (hin : decide (i < n) = true) (hjn : decide (j < n) = true)
    (hr : Region.ready md l.toArray ls = [i, j]) (hwi : Region.wanted oi (yielded l.toArray a.tmps) = true) (hwj : Region.wanted oj (yielded l.toArray a.tmps) = true)
    (h1 : ∀ w', Q w w' → ∀ K : Act → World → Prop, (∀ v w'', ρ.r w' w'' → RF.Steadily ρ P md l R n f (ls.setIfInBounds i true) (a.put oi.dst v) w'' → K (a.put oi.dst v) w'') → Oper.wp P oi a w' K R)
    (h2 : ∀ w', Q w w' → ∀ K : Act → World → Prop, (∀ v w'', ρ.r w' w'' → RF.Steadily ρ P md l R n f (ls.setIfInBounds j true) (a.put oj.dst v) w'' → K (a.put oj.dst v) w'') → Oper.wp P oj a w' K R) : RF.Steadily ρ P md l R n (f + 1) ls a w := fun hB inv => by
  have hri : i ∈ Region.ready md l.toArray ls := by rw [hr]; simp
  have hrj : j ∈ Region.ready md l.toArray ls := by rw [hr]; simp
  have hin' : i < n := by simpa using hin
  have hjn' : j < n := by simpa using hjn
  refine ⟨fun h => (by rw [h] at hr; cases hr), fun k hk => ?_⟩
  rw [hr] at hk
  have hk' : k = i ∨ k = j := by simpa using hk
  rcases hk' with rfl | rfl
  · refine ⟨hin', fun w' hq => ?_⟩
    unfold wpOp
    simp only [at_list hi]
    rw [if_pos hwi]
    exact .inl (h1 w' hq _ fun v w'' hq' hS => ⟨hq', hS hB (inv.set hri hin')⟩)
  · refine ⟨hjn', fun w' hq => ?_⟩
    unfold wpOp
    simp only [at_list hj]
    rw [if_pos hwj]
    exact .inl (h2 w' hq _ fun v w'' hq' hS => ⟨hq', hS hB (inv.set hrj hjn')⟩)
theorem opwp_make {P : Program} {oi : Oper} {a : Act} {w : World} {K : Act → World → Prop} {R : Exit → Act → World → Prop} (v : Value) (o : Obj) (hx : (execOp a.eval oi).run P w = .ok (.value v) (w.alloc o)) (h : K (a.put oi.dst v) (w.alloc o)) : Oper.wp P oi a w K R := by
  unfold Oper.wp
  rw [hx]
  exact h
theorem Blk.grown {W W' : World} {row : Option Nat} {b : Nat} {cs : List Value} {t : TypeId} (h : Blk W b cs t) (hg : W.grownBy W' row) (hne : some b ≠ row) : Blk W' b cs t := (hg.block b h.lt hne).trans h
theorem Blk.not_row {W : World} {b : Nat} {cs : List Value} {t e : TypeId} (h : Blk W b cs t) (hte : t ≠ e) {B size k : Nat} {v : Value} {xs : List Value} (hr : W.ownsRow B e size v k xs) : some b ≠ v.ownBlock := by
  rcases hr.2 with ⟨rfl, _⟩ | ⟨g, cap, cur, rfl, _, hgb, _⟩
  · simp [Value.ownBlock]
  · intro e'
    obtain rfl : b = g := by simpa [Value.ownBlock] using e'
    unfold Blk at h
    rw [h] at hgb
    injection hgb with hgb
    injection hgb with _ hgb _
    exact hte hgb
theorem rowsApart {w : World} {B1 B2 z1 z2 n1 n2 : Nat} {e1 e2 : TypeId} {v1 v2 : Value} {xs1 xs2 : List Value} (h1 : w.ownsRow B1 e1 z1 v1 n1 xs1) (h2 : w.ownsRow B2 e2 z2 v2 n2 xs2) (he : e1 ≠ e2) : v1.ownBlock = none ∨ v1.ownBlock ≠ v2.ownBlock := by
  rcases h1.2 with ⟨rfl, _⟩ | ⟨g1, c1, u1, rfl, _, k1, _⟩
  · exact .inl rfl
  · rcases h2.2 with ⟨rfl, _⟩ | ⟨g2, c2, u2, rfl, _, k2, _⟩
    · exact .inr (by simp [Value.ownBlock])
    · right
      intro e
      simp only [Value.ownBlock, Option.some.injEq] at e
      subst e
      rw [k1] at k2
      injection k2 with k2
      injection k2 with _ k2 _
      exact he k2
theorem ownsRow_cells {w : World} {B z n : Nat} {e : TypeId} {v : Value} {xs : List Value} (h : w.ownsRow B e z v n xs) : ∀ (j : Nat) (o : Obj), v.ownBlock = some j → w.heap[j]? = some o → o.isCells = true := by
  intro j o hj ho
  rcases h.2 with ⟨rfl, _⟩ | ⟨g, cap, cur, rfl, _, hc, _⟩
  · cases hj
  · simp only [Value.ownBlock, Option.some.injEq] at hj
    subst hj
    rw [hc] at ho
    injection ho with ho
    subst ho; rfl
structure Gr (b : Nat) (w w' : World) : Prop where
  low : Below b w w'
  oth : KeepsOthers w w'
theorem Gr.refl (b : Nat) (w : World) : Gr b w w := ⟨Below.refl _ _, KeepsOthers.refl _⟩
theorem Gr.drew {b : Nat} {w w' : World} (h : Gr b w w') : Gr b w w'.drew := ⟨Below.drew h.low, h.oth.trans (KeepsOthers.drew _)⟩
theorem Gr.q {b : Nat} {w w1 w2 : World} (h : Gr b w w1) (hb : b ≤ w.heap.size) (hq : Q w1 w2) : Gr b w w2 :=
  ⟨Below.trans h.low (hq.mono (Nat.le_trans hb h.low.size)), h.oth.trans (KeepsOthers.of_grownBy (grownBy_q hq none) (fun j o e => by cases e))⟩
theorem Gr.alloc {b : Nat} {w w1 : World} (h : Gr b w w1) (hb : b ≤ w.heap.size) (o : Obj) : Gr b w (w1.alloc o) := ⟨h.low.alloc (Nat.le_trans hb h.low.size) o, h.oth.trans (KeepsOthers.alloc _ _)⟩
theorem Gr.set {b : Nat} {w w1 : World} (h : Gr b w w1) {g : Nat} (hg : b ≤ g) (i : Nat) (v : Value) : Gr b w (w1.setCell ⟨g, i, none⟩ v) := ⟨h.low.setCell (p := ⟨g, i, none⟩) hg v, h.oth.trans (KeepsOthers.setCell _ _ _)⟩
theorem Gr.row {b : Nat} {w w1 w2 : World} (h : Gr b w w1) (hb : b ≤ w.heap.size) {B z n : Nat} {e : TypeId} {v : Value} {xs : List Value} (hr : w1.ownsRow B e z v n xs) (hB : b ≤ B) (hg : w1.grownBy w2 v.ownBlock) : Gr b w w2 :=
  ⟨h.low.grown hg (Nat.le_trans hb h.low.size) (fun j hj => Nat.le_trans hB (hr.lt j hj).1), h.oth.trans (KeepsOthers.of_grownBy hg (ownsRow_cells hr))⟩
theorem Gr.trans {b : Nat} {w w1 w2 : World} (h : Gr b w w1) (k : Gr b w1 w2) : Gr b w w2 := ⟨Below.trans h.low k.low, h.oth.trans k.oth⟩
theorem Gr.keepB {b : Nat} {w w' : World} (h : Gr b w w') {bs : List Nat} (hbs : ∀ k ∈ bs, k < b) : KeepB bs w w' := fun k hk _ => h.low.block k (hbs k hk)
end Go.Proofs.YtohonlboaddppaaGreatDoor
