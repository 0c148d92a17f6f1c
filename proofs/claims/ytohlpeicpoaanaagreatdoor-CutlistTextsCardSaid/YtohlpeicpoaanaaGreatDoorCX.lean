/-
  Walks of package cutlist: line.
-/
import Derived.Test.YtohlpeicpoaanaaGreatDoorCW
import Derived.Maps.OwnIn
namespace Go.Proofs.YtohlpeicpoaanaaGreatDoor
open Go.RowKit Go Kp

attribute [local go_sem] Oper.semAt_some

theorem results_line {W : World} {b c : Nat} {x y z u v : Value} (h : Blk W b [x, y, z, u] 42) (hc : W.cell? ⟨c, 0, none⟩ = some v) (fn : Func) (hf : fn.results = #[.cell 2 42, .cell 3 4]) (tmps : Array Value)
    (hp : tmps.getD 2 undef = .pointer (some ⟨b, 0, none⟩)) (hp3 : tmps.getD 3 undef = .pointer (some ⟨c, 0, none⟩)) :
    (results fn tmps).run Tryz.prog W = .ok (.tuple #[.agg #[x, y, z, u], v]) W := by
  have c0 := h.cell 0
  have c1 := h.cell 1
  have c2 := h.cell 2
  have c3 := h.cell 3
  simp only [List.getElem?_cons_zero, List.getElem?_cons_succ] at c0 c1 c2 c3
  simp only [Array.getD_eq_getD_getElem?] at hp hp3
  simp [results, hf, hp, hp3, go_sem, hc, c0, c1, c2, c3]

theorem alloc_k {w : World} {o o' : Obj} {k : Nat} (h : w.heap[k]? = some o) : (w.alloc o').heap[k]? = some o := (Below.heap_alloc _ _ _ (Array.getElem?_eq_some_iff.1 h).1).trans h
theorem alloc_n (w : World) (o : Obj) (n : Nat) (h : w.heap.size = n) : (w.alloc o).heap[n]? = some o := h ▸ World.alloc_heap_new w o
theorem six_allocs (w : World) (o0 o1 o2 o3 o4 o5 : Obj) : (((((((w.alloc o0).alloc o1).alloc o2).alloc o3).alloc o4).alloc o5).heap[w.heap.size]? = some o0 ∧ ((((((w.alloc o0).alloc o1).alloc o2).alloc o3).alloc o4).alloc o5).heap[w.heap.size + 1]? = some o1 ∧
    ((((((w.alloc o0).alloc o1).alloc o2).alloc o3).alloc o4).alloc o5).heap[w.heap.size + 2]? = some o2 ∧ ((((((w.alloc o0).alloc o1).alloc o2).alloc o3).alloc o4).alloc o5).heap[w.heap.size + 3]? = some o3 ∧
    ((((((w.alloc o0).alloc o1).alloc o2).alloc o3).alloc o4).alloc o5).heap[w.heap.size + 4]? = some o4 ∧ ((((((w.alloc o0).alloc o1).alloc o2).alloc o3).alloc o4).alloc o5).heap[w.heap.size + 5]? = some o5) := by
  exact ⟨alloc_k (alloc_k (alloc_k (alloc_k (alloc_k (alloc_n _ _ _ rfl))))), alloc_k (alloc_k (alloc_k (alloc_k (alloc_n _ _ _ (by simp))))), alloc_k (alloc_k (alloc_k (alloc_n _ _ _ (by simp)))), alloc_k (alloc_k (alloc_n _ _ _ (by simp))), alloc_k (alloc_n _ _ _ (by simp)), alloc_n _ _ _ (by simp)⟩

theorem num_drop {W : World} {g gc n B : Nat} {L : List Int} (hL : L.length = n) (h : W.ownsRow B 3 1 (.slice (some ⟨g, 0, none⟩) n gc) n (numC L)) : NumSl W (.slice (some ⟨g, 3, none⟩) (n - 3) (gc - 3)) (L.drop 3) := by
  have hc := num_cells hL h
  refine ⟨_, _, by rw [List.length_drop, hL], fun i hi => ?_⟩
  rw [List.length_drop] at hi
  have h1 := hc (3 + i) (by omega)
  refine ⟨g, 3, rfl, World.block_lt_of_cell? W _ h1, fun j u hu => ?_⟩
  obtain rfl : j = 0 := by
    have := (List.getElem?_eq_some_iff.1 hu).1
    simp at this; exact this
  rw [Nat.mul_one, Nat.add_zero, h1, ← hu, atI_get (by omega), List.getElem_drop]; rfl

/-- A slice of ints in a block of ints. -/
def NumO (w : World) (p : CV) : Prop := ∃ (g : Nat) (cur : Array Value), w.heap[g]? = some (Obj.cells cur 3 (0, 0)) ∧ ∀ W : World, W.heap[g]? = some (Obj.cells cur 3 (0, 0)) → NumSl W p.2 p.1.ms
theorem NumO.num {w : World} {p : CV} (h : NumO w p) : NumSl w p.2 p.1.ms := by
  obtain ⟨g, cur, h1, h2⟩ := h
  exact h2 _ h1
theorem NumO.q {w w' : World} {p : CV} (h : NumO w p) (hq : Q w w') : NumO w' p := by
  obtain ⟨g, cur, h1, h2⟩ := h
  exact ⟨g, cur, (hq.block _ (Array.getElem?_eq_some_iff.1 h1).1).trans h1, h2⟩
theorem NumO.grown {w w' : World} {p : CV} {B n : Nat} {o : Value} {xs : List Value} (h : NumO w p) (ho : w.ownsRow B 42 4 o n xs) (hg : w.grownBy w' o.ownBlock) : NumO w' p := by
  obtain ⟨g, cur, h1, h2⟩ := h
  refine ⟨g, cur, (hg.block g (Array.getElem?_eq_some_iff.1 h1).1 (fun e => ?_)).trans h1, h2⟩
  rcases ho.2 with ⟨rfl, _⟩ | ⟨g', cap, cur', rfl, _, hc, _⟩
  · cases e
  · have : g = g' := Option.some.inj e
    subst this
    rw [h1] at hc
    injection hc with hc
    injection hc with _ hc _
    exact absurd hc (by decide)
theorem num_dropO {W : World} {g gc n B : Nat} {L : List Int} (hL : L.length = n) (h : W.ownsRow B 3 1 (.slice (some ⟨g, 0, none⟩) n gc) n (numC L)) (x : Ct) (hx : x.ms = L.drop 3) : NumO W (x, .slice (some ⟨g, 3, none⟩) (n - 3) (gc - 3)) := by
  rcases h.2 with ⟨h0, _⟩ | ⟨g', gc', cur, he, hg, hc, r⟩
  · cases h0
  · injection he with e1 e2 e3
    injection e1 with e1
    injection e1 with e1
    subst e1 e3
    exact ⟨g, cur, hc, fun W' hW' => by rw [show (x, Value.slice (some ⟨g, 3, none⟩) (n - 3) (gc - 3)).1.ms = L.drop 3 from hx]; exact num_drop hL ⟨h.1, .inr ⟨g, gc, cur, rfl, hg, hW', r⟩⟩⟩

/-- What line answers. -/
def LineRes (s : Str) (e : Ending) (W : World) : Prop :=
  (lineV s = none ∧ e = .returned (.tuple #[.agg #[.int .i64 0, .int .i64 0, .int .i64 0, .slice none 0 0], .bool false])) ∨
  (∃ x u, lineV s = some x ∧ e = .returned (.tuple #[.agg (ctC x u).toArray, .bool true]) ∧ NumO W (x, u))

theorem ownsRow_set {w : World} {base size n b i : Nat} {e : TypeId} {v x : Value} {xs : List Value} (h : w.ownsRow base e size v n xs) (hb : b < base) : (w.setCell ⟨b, i, none⟩ x).ownsRow base e size v n xs := by
  refine ⟨h.1, h.2.elim .inl ?_⟩
  rintro ⟨g, cap, cur, hv, hg, hc, r⟩
  refine .inr ⟨g, cap, cur, hv, hg, ?_, r⟩
  have : ¬ b = g := by omega
  simpa [World.setCell, Array.getElem?_modify, this] using hc

set_option maxRecDepth 100000 in
set_option maxHeartbeats 4000000 in
theorem line_in (s : Str) (hs : s.length ≤ 100000) (w : World) (hE : Env w) :
    CallsIn Fence.wide 9 Tryz.prog 40 #[.string ⟨s.toArray⟩] w fun e w' => LineRes s e w' ∧ Q w w' := by
  obtain ⟨i0, ci, cz0, cz1, cz2⟩ := info_parts infoInt
  refine callsIn_of_wp_marks Tryz.func40 rfl trivial ?_ rfl
  simp only [Tryz.ntmps40, List.size_toArray, List.length_cons, List.length_nil, Nat.reduceAdd, Nat.reduceSub, Array.replicate_succ, Array.replicate_zero, List.push_toArray, List.append_toArray, List.nil_append, List.cons_append]
  refine wpIn_wide.2 ?_
  go_wp2_with fail
  refine (lib_SplitSeq s _).mono ?_
  rintro e w2 ⟨rfl, rfl⟩
  unfold splitW
  obtain ⟨g0, g1, g2, g3, g4, g5⟩ := six_allocs w (.cells #[.int .i64 0, .int .i64 0, .int .i64 0, .slice none 0 0] 42) (.cells #[.bool false] 4) (.cells #[.slice none 0 0] 40) (.cells #[.string ⟨s.toArray⟩] 9) (.cells #[.string ⟨#[32]⟩] 9) (.cells #[.int .i64 0] 3)
  obtain ⟨W2, hW2⟩ : ∃ W2, (((((w.alloc (.cells #[.int .i64 0, .int .i64 0, .int .i64 0, .slice none 0 0] 42)).alloc (.cells #[.bool false] 4)).alloc (.cells #[.slice none 0 0] 40)).alloc (.cells #[.string ⟨s.toArray⟩] 9)).alloc (.cells #[.string ⟨#[32]⟩] 9)).alloc (.cells #[.int .i64 0] 3) = W2 := ⟨_, rfl⟩
  have hq2 : Q w W2 := by rw [← hW2]; exact bt
  have hs2 : W2.heap.size = w.heap.size + 6 := by rw [← hW2]; simp
  have hs0 : (((w.alloc (.cells #[.int .i64 0, .int .i64 0, .int .i64 0, .slice none 0 0] 42)).alloc (.cells #[.bool false] 4)).alloc (.cells #[.slice none 0 0] 40)).heap.size = w.heap.size + 3 := by simp
  rw [hW2] at g0 g1 g2 g3 g4 g5
  rw [hs0, hW2]
  clear hW2 hs0
  have bR : Blk W2 w.heap.size [.int .i64 0, .int .i64 0, .int .i64 0, .slice none 0 0] 42 := g0
  have bB : Boxed W2 (w.heap.size + 1) 4 (.bool false) := g1
  have bL : Boxed W2 (w.heap.size + 2) 40 (.slice none 0 0) := g2
  have bS : StrAt W2 (w.heap.size + 3) s := g3
  have bP : StrAt W2 (w.heap.size + 4) [32] := g4
  have bV : Boxed W2 (w.heap.size + 5) 3 (.int .i64 0) := g5
  clear g0 g1 g2 g3 g4 g5
  obtain ⟨R, hR⟩ : ∃ R, w.heap.size = R := ⟨_, rfl⟩
  have hwR : w.heap.size ≤ R := by omega
  rw [hR] at bR bB bL bS bP bV hs2 ⊢
  simp only [Nat.add_assoc, Nat.reduceAdd]
  go_wp2_with fail
  refine (wpIn_wide (n := 9)).1 ?_
  refine wpIn_rangeFunc_next2 (m := 9) (gf := 112) (lb := #[.pointer (some ⟨R + 4, 0, none⟩), .pointer (some ⟨R + 3, 0, none⟩), .pointer (some ⟨R + 5, 0, none⟩)]) (by omega) rfl (enters_of Tryz.func112 (by kernel_rfl) rfl)
    (split_next (R + 3) (R + 4) (R + 5) (by omega) (by omega) s hs W2 8 (by omega) bS bP bV) (by simp; omega) (fun _ => rfl)
    (fun pre W => ∃ v vals, Blk W R [.int .i64 0, .int .i64 0, .int .i64 0, .slice none 0 0] 42 ∧ Boxed W (R + 1) 4 (.bool false) ∧ Boxed W (R + 2) 40 v ∧ W.ownsRow (R + 6) 3 1 v vals.length (numC vals) ∧ Hid (numsV pre = some vals) ∧ Q w W ∧ R + 6 ≤ W.heap.size)
    (fun c pre W => c = .ret ∧ Blk W R [.int .i64 0, .int .i64 0, .int .i64 0, .slice none 0 0] 42 ∧ Boxed W (R + 1) 4 (.bool false) ∧ lineV s = none ∧ Q w W)
    (fun pre W h => by obtain ⟨_, _, _, _, _, _, _, hQ, _⟩ := h; exact hE.q hQ)
    (fun pre W W' h k hb => by
      obtain ⟨v, vals, h1, h2, h3, h4, h5, h7, h8⟩ := h
      exact ⟨v, vals, h1.kc k, boxed_kc h2 k, boxed_kc h3 k, ownsRow_kc h4 k, h5, Below.trans h7 (hb.mono hq2.size), Nat.le_trans h8 k.1⟩)
    ⟨fun pre W W' h hq => by
      obtain ⟨v, vals, h1, h2, h3, h4, h5, h7, h8⟩ := h
      exact ⟨v, vals, h1.keep hq h1.lt, boxed_kc h2 (KC.q hq), boxed_kc h3 (KC.q hq), ownsRow_keep h4 hq, h5, Q.trans h7 hq, Nat.le_trans h8 hq.size⟩,
      fun pre W b x hb h => by
      obtain ⟨v, vals, h1, h2, h3, h4, h5, h7, h8⟩ := h
      have hb3 : R + 3 ≤ b ∧ b < R + 6 := by
        simp only [List.mem_cons, List.not_mem_nil, or_false] at hb
        omega
      exact ⟨v, vals, h1.setOther (by omega) 0 x, Blk.setOther (cs := [_]) h2 (by omega) 0 x, Blk.setOther (cs := [_]) h3 (by omega) 0 x, ownsRow_set h4 (by omega), h5, h7.setCell (p := ⟨b, 0, none⟩) (by simp; omega) x, by simp; omega⟩⟩
    (fun c pre W W' h k hb => ⟨h.1, h.2.1.kc k, boxed_kc h.2.2.1 k, h.2.2.2.1, Below.trans h.2.2.2.2 (hb.mono hq2.size)⟩)
    ⟨_, [], bR, bB, bL, World.ownsRow_nil _ _ _ _, Lib.hid rfl, hq2, by omega⟩
    ?a1 ?assign ?body ?done ?stop
  case assign =>
    intro l x W K hK
    unfold encW
    gi_wp2
    exact hK
  case stop =>
    rintro D c pre W hD _ ⟨rfl, hbR, hbB, hno, hQ⟩ hK
    gi_wp2
    have kc := KC.put (.deferred none) hK rfl
    refine ⟨by simp, .inl ⟨_, _, rfl, run_takeDeferred hK, ?_⟩⟩
    exact ⟨_, results_line (hbR.kc kc) (boxed_kc hbB kc).cell _ rfl _ rfl rfl, .inl ⟨hno, rfl⟩, Below.trans hQ (below_put (by omega) hK _)⟩
  case body =>
    rintro l pre x W ⟨v, vals, hbR, hbB, hbL, hrow, HN, hQ, hs6⟩ ⟨post, hpost⟩
    have hxl : x.length ≤ 100000 := by
      have h := sepAll_mem 32 _ s (Nat.le_refl _) x (by rw [hpost]; simp)
      omega
    have hpl : vals.length ≤ 100000 := by
      have h := sepAll_len 32 _ s (Nat.le_refl _)
      rw [hpost, List.length_append, List.length_cons] at h
      have h2 := numsV_len _ _ HN.out
      omega
    have HP := Lib.hid hpost
    have HA := Lib.hid (cut_Atoi x hxl W (hE.q hQ))
    have hcL := hbL.cell
    clear hpost
    gi_wp2
    refine ⟨trivial, ?_⟩
    with_reducible refine CallsIn.mono (CallsIn.inRound l (callsIn_wide.2 HA.out)) ?_
    rintro e w5 ⟨hq5, (⟨z, rfl, hz⟩ | ⟨z, T, p, rfl, hz⟩)⟩
    · have HN2 : Hid (numsV (pre ++ [x]) = some (vals ++ [z])) := Lib.hid (by rw [numsV_snoc, HN.out, hz]; rfl)
      have R5 := hbR.keep hq5 hbR.lt
      have B5 := boxed_kc hbB (KC.q hq5)
      have L5 := boxed_kc hbL (KC.q hq5)
      have row5 := ownsRow_keep hrow hq5
      have hQ5 := Q.trans hQ hq5
      have hs5 : R + 6 ≤ w5.heap.size := by
        have h1 := hq5.size
        omega
      have c5 := L5.cell
      clear HA HN HP hcL hbR hbB hbL hrow hz hQ
      gi_wp2_with (gi_at_builtin; refine wpListIn_append_own_at _ rfl (.tmp 19) (.tmp 21) 40 rfl (R + 6) 3 i0 _ 1 8 Tryz.underlying40 ci cz0 cz1 cz2 rfl (by decide) v vals.length (numC vals) rfl (row5.alloc _) ⟨w5.heap.size, 0, none⟩ 1 1 [.int .i64 z] rfl rfl (cell_one_new _ _ _) (by simp [Value.oneCell']) (by unfold maxLen; omega) (by omega) (by simp; omega) ?_)
      intro v' w1 hown' hgrow _ _
      obtain ⟨g', cap', rfl⟩ := ownsRow_succ hown'
      have HNl : Hid ((vals ++ [z]).length = vals.length + 1) := Lib.hid (by simp)
      generalize vals.length + 1 = n' at *
      have hlt5 := fun k hk => (row5.lt k hk).1
      have hb1 : Below (R + 6) w5 w1 := ((Below.refl _ _).alloc hs5 _).grown hgrow (by simp; omega) hlt5
      have ko : KeepsOthers w5 w1 := (KeepsOthers.alloc w5 _).trans (KeepsOthers.of_grownBy hgrow fun j o ej hj => by
        rcases (row5.alloc _).2 with ⟨rfl, _⟩ | ⟨g, cap, cur, rfl, _, hgb, _⟩
        · simp [Value.ownBlock] at ej
        · obtain rfl : g = j := by simpa [Value.ownBlock] using ej
          rw [hgb] at hj; cases hj; rfl)
      have R1 := R5.keep hb1 (by omega)
      have B1 : Boxed w1 (R + 1) 4 (.bool false) := (hb1.block _ (by omega)).trans B5
      have L1 : Boxed w1 (R + 2) 40 v := (hb1.block _ (by omega)).trans L5
      have f1 := L1.frozen
      have c1 := L1.cell
      have hQ1 : Q w w1 := Below.trans hQ5 (hb1.mono (by omega))
      have hs1 : R + 6 ≤ w1.heap.size := Nat.le_trans hs5 hb1.size
      have kf : KeepsFrom W2.heap.size W (w1.setCell ⟨R + 2, 0, none⟩ (.slice (some ⟨g', 0, none⟩) n' cap')) := (((KeepsOthers.of_grownBy (grownBy_q hq5 none) (fun j o e => by cases e)).trans ko).trans (KeepsOthers.setCell _ _ _)).from _
      have kb : KeepB [R + 3, R + 4, R + 5] W (w1.setCell ⟨R + 2, 0, none⟩ (.slice (some ⟨g', 0, none⟩) n' cap')) := ((KeepB.q hq5).trans (fun k hk hlt => hb1.block k (by
        simp only [List.mem_cons, List.not_mem_nil, or_false] at hk
        omega))).trans (KeepB.set _ (fun k hk => by
        simp only [List.mem_cons, List.not_mem_nil, or_false] at hk
        omega) _ _)
      have HF : Hid (∃ v vals, Blk (w1.setCell ⟨R + 2, 0, none⟩ (.slice (some ⟨g', 0, none⟩) n' cap')) R [.int .i64 0, .int .i64 0, .int .i64 0, .slice none 0 0] 42 ∧ Boxed (w1.setCell ⟨R + 2, 0, none⟩ (.slice (some ⟨g', 0, none⟩) n' cap')) (R + 1) 4 (.bool false) ∧ Boxed (w1.setCell ⟨R + 2, 0, none⟩ (.slice (some ⟨g', 0, none⟩) n' cap')) (R + 2) 40 v ∧ (w1.setCell ⟨R + 2, 0, none⟩ (.slice (some ⟨g', 0, none⟩) n' cap')).ownsRow (R + 6) 3 1 v vals.length (numC vals) ∧ Hid (numsV (pre ++ [x]) = some vals) ∧ Q w (w1.setCell ⟨R + 2, 0, none⟩ (.slice (some ⟨g', 0, none⟩) n' cap')) ∧ R + 6 ≤ (w1.setCell ⟨R + 2, 0, none⟩ (.slice (some ⟨g', 0, none⟩) n' cap')).heap.size) :=
        Lib.hid ⟨(.slice (some ⟨g', 0, none⟩) n' cap'), vals ++ [z], R1.setOther (by omega) 0 (.slice (some ⟨g', 0, none⟩) n' cap'), Blk.setOther (cs := [_]) B1 (by omega) 0 (.slice (some ⟨g', 0, none⟩) n' cap'), L1.set (.slice (some ⟨g', 0, none⟩) n' cap'), by
          refine ownsRow_set ?_ (by omega)
          rw [HNl.out]
          have e : numC (vals ++ [z]) = numC vals ++ [.int .i64 z] := by unfold numC; rw [List.map_append]; rfl
          rw [e]; exact hown', HN2, hQ1.setCell (p := ⟨R + 2, 0, none⟩) (by simp; omega) (.slice (some ⟨g', 0, none⟩) n' cap'), by simp; omega⟩
      clear hown' hgrow hlt5 hb1 ko R1 B1 L1 hQ1 hs1 R5 B5 L5 row5 c5 HN2 hQ5 hq5
      gi_wp2
      exact ⟨kf, kb, HF.out⟩
    · have HX : Hid (lineV s = none) := Lib.hid (by
        unfold lineV
        rw [HP.out, show pre ++ x :: post = (pre ++ [x]) ++ post by simp, numsV_none _ _ (by rw [numsV_snoc, HN.out, hz]; rfl)]; rfl)
      have R5 := hbR.keep hq5 hbR.lt
      have B5 := boxed_kc hbB (KC.q hq5)
      have hQ5 := Q.trans hQ hq5
      have c0 := R5.cell 0
      have c1 := R5.cell 1
      have c2 := R5.cell 2
      have c3 := R5.cell 3
      simp only [List.getElem?_cons_zero, List.getElem?_cons_succ] at c0 c1 c2 c3
      have f0 := R5.frozen 0
      have f1 := R5.frozen 1
      have f2 := R5.frozen 2
      have f3 := R5.frozen 3
      have b0 := B5.cell
      have g0 := B5.frozen
      clear HA HN HP hcL hbR hbB hbL hrow hz hQ
      have ko := ((((((KeepsOthers.of_grownBy (grownBy_q hq5 none) (fun j o e => by cases e)).trans (KeepsOthers.setCell w5 ⟨R, 0, none⟩ (.int .i64 0))).trans (KeepsOthers.setCell _ ⟨R, 1, none⟩ (.int .i64 0))).trans (KeepsOthers.setCell _ ⟨R, 2, none⟩ (.int .i64 0))).trans (KeepsOthers.setCell _ ⟨R, 3, none⟩ (.slice none 0 0))).trans (KeepsOthers.setCell _ ⟨R + 1, 0, none⟩ (.bool false)))
      have RR := ((((R5.set 0 (.int .i64 0)).set 1 (.int .i64 0)).set 2 (.int .i64 0)).set 3 (.slice none 0 0)).setOther (b' := R + 1) (by omega) 0 (.bool false)
      have BB := Boxed.set (.bool false) (show Boxed _ (R + 1) 4 (.bool false) from Blk.setOther (cs := [_]) (Blk.setOther (cs := [_]) (Blk.setOther (cs := [_]) (Blk.setOther (cs := [_]) B5 (b' := R) (by omega) 0 (.int .i64 0)) (b' := R) (by omega) 1 (.int .i64 0)) (b' := R) (by omega) 2 (.int .i64 0)) (b' := R) (by omega) 3 (.slice none 0 0))
      have QQ := ((((hQ5.setCell (p := ⟨R, 0, none⟩) hwR (.int .i64 0)).setCell (p := ⟨R, 1, none⟩) hwR (.int .i64 0)).setCell (p := ⟨R, 2, none⟩) hwR (.int .i64 0)).setCell (p := ⟨R, 3, none⟩) hwR (.slice none 0 0)).setCell (p := ⟨R + 1, 0, none⟩) (by simp; omega) (.bool false)
      gi_wp2
      exact ⟨ko.from _, rfl, RR, BB, HX.out, QQ⟩
  case done =>
    rintro D ys W hD hys ⟨v, vals, hbR, hbB, hbL, hrow, HN, hQ, hs6⟩ hK
    subst hys
    have hwD : w.heap.size ≤ D := by omega
    by_cases h4 : vals.length < 4
    · have HX : Hid (lineV s = none) := Lib.hid (by unfold lineV; rw [HN.out, Option.bind_some]; unfold pieceV; rw [if_pos h4])
      obtain ⟨va, vc, rfl⟩ : ∃ a cp, v = .slice a vals.length cp := by
        rcases hrow.2 with ⟨rfl, h0⟩ | ⟨g, cap, cur, rfl, _⟩
        · exact ⟨_, _, by rw [h0]⟩
        · exact ⟨_, _, rfl⟩
      have c0 := hbR.cell 0
      have c1 := hbR.cell 1
      have c2 := hbR.cell 2
      have c3 := hbR.cell 3
      simp only [List.getElem?_cons_zero, List.getElem?_cons_succ] at c0 c1 c2 c3
      have f0 := hbR.frozen 0
      have f1 := hbR.frozen 1
      have f2 := hbR.frozen 2
      have f3 := hbR.frozen 3
      have b0 := hbB.cell
      have g0 := hbB.frozen
      have hcL := hbL.cell
      have ko := ((((((KeepsOthers.refl W).trans (KeepsOthers.setCell W ⟨R, 0, none⟩ (.int .i64 0))).trans (KeepsOthers.setCell _ ⟨R, 1, none⟩ (.int .i64 0))).trans (KeepsOthers.setCell _ ⟨R, 2, none⟩ (.int .i64 0))).trans (KeepsOthers.setCell _ ⟨R, 3, none⟩ (.slice none 0 0))).trans (KeepsOthers.setCell _ ⟨R + 1, 0, none⟩ (.bool false)))
      have RR := ((((hbR.set 0 (.int .i64 0)).set 1 (.int .i64 0)).set 2 (.int .i64 0)).set 3 (.slice none 0 0)).setOther (b' := R + 1) (by omega) 0 (.bool false)
      have BB := Boxed.set (.bool false) (show Boxed _ (R + 1) 4 (.bool false) from Blk.setOther (cs := [_]) (Blk.setOther (cs := [_]) (Blk.setOther (cs := [_]) (Blk.setOther (cs := [_]) hbB (b' := R) (by omega) 0 (.int .i64 0)) (b' := R) (by omega) 1 (.int .i64 0)) (b' := R) (by omega) 2 (.int .i64 0)) (b' := R) (by omega) 3 (.slice none 0 0))
      have QQ := ((((hQ.setCell (p := ⟨R, 0, none⟩) hwR (.int .i64 0)).setCell (p := ⟨R, 1, none⟩) hwR (.int .i64 0)).setCell (p := ⟨R, 2, none⟩) hwR (.int .i64 0)).setCell (p := ⟨R, 3, none⟩) hwR (.slice none 0 0)).setCell (p := ⟨R + 1, 0, none⟩) (by simp; omega) (.bool false)
      have hz : (vals.length : Int) < 4 := by omega
      have hK2 := ko.same D _ hK rfl
      have kc := KC.put (.deferred none) hK2 rfl
      clear hrow HN hbR hbB hbL ko hQ h4
      go_wp2
      refine ⟨by simp, .inl ⟨_, _, rfl, run_takeDeferred hK2, ?_⟩⟩
      exact ⟨_, results_line (RR.kc kc) (boxed_kc BB kc).cell _ rfl _ rfl rfl, .inl ⟨HX.out, rfl⟩, Below.trans QQ (below_put hwD hK2 _)⟩
    · have HX : Hid (lineV s = some ⟨atI vals 0, atI vals 1, atI vals 2, vals.drop 3⟩) := Lib.hid (by unfold lineV; rw [HN.out, Option.bind_some]; unfold pieceV; rw [if_neg h4])
      rcases id hrow.2 with ⟨-, h0⟩ | ⟨g, gc, cur, rfl, hg, -, hle, -⟩
      · omega
      have hcell := num_cells rfl hrow
      have r0 := hcell 0 (by omega)
      have r1 := hcell 1 (by omega)
      have r2 := hcell 2 (by omega)
      have hcL0 := hbL.cell
      generalize atI vals 0 = a0 at *
      generalize atI vals 1 = a1 at *
      generalize atI vals 2 = a2 at *
      generalize hnn : vals.length = n at *
      have hz : ¬ (n : Int) < 4 := by omega
      have hz1 : (1 : Int) < n := by omega
      have hz2 : (2 : Int) < n := by omega
      have hz3 : (3 : Int) ≤ n := by omega
      have hz0 : 0 < n := by omega
      clear hcell HN hbL h4
      go_wp2_with fail
      have hcL : W.drew.cell? ⟨R + 2, 0, none⟩ = some (.slice (some ⟨g, 0, none⟩) n gc) := hcL0
      have s0 : W.drew.cell? ⟨g, 0, none⟩ = some (.int .i64 a0) := r0
      have s1 : W.drew.cell? ⟨g, 1, none⟩ = some (.int .i64 a1) := r1
      have s2 : W.drew.cell? ⟨g, 2, none⟩ = some (.int .i64 a2) := r2
      refine goesOn_wp ?_
      refine wp_steadily 12 (by kernel_rfl) (by kernel_rfl) rfl ?_
      refine steadily_value (i := 0) (v := ?_) rfl rfl (by kernel_rfl) (by kernel_rfl) (fun _ _ _ h => h) (by rfl) ?_ ?_
      rotate_left
      · (intro w' hq; have hc0 := qcell hq hcL; go_simp; try with_reducible rfl)
      simp only [Act.put, List.setIfInBounds_toArray, List.set_cons_zero, List.set_cons_succ]
      refine steadily_value (i := 1) (v := ?_) rfl rfl (by kernel_rfl) (by kernel_rfl) (fun _ _ _ h => h) (by rfl) ?_ ?_
      rotate_left
      · (intro w' hq; go_simp; try with_reducible rfl)
      simp only [Act.put, List.setIfInBounds_toArray, List.set_cons_zero, List.set_cons_succ]
      refine steadily_value (i := 2) (v := ?_) rfl rfl (by kernel_rfl) (by kernel_rfl) (fun _ _ _ h => h) (by rfl) ?_ ?_
      rotate_left
      · (intro w' hq; have hc0 := qcell hq s0; go_simp; try with_reducible rfl)
      simp only [Act.put, List.setIfInBounds_toArray, List.set_cons_zero, List.set_cons_succ]
      refine steadily_value (i := 3) (v := ?_) rfl rfl (by kernel_rfl) (by kernel_rfl) (fun _ _ _ h => h) (by rfl) ?_ ?_
      rotate_left
      · (intro w' hq; have hc0 := qcell hq hcL; go_simp; try with_reducible rfl)
      simp only [Act.put, List.setIfInBounds_toArray, List.set_cons_zero, List.set_cons_succ]
      refine steadily_value (i := 4) (v := ?_) rfl rfl (by kernel_rfl) (by kernel_rfl) (fun _ _ _ h => h) (by rfl) ?_ ?_
      rotate_left
      · (intro w' hq; go_simp; try with_reducible rfl)
      simp only [Act.put, List.setIfInBounds_toArray, List.set_cons_zero, List.set_cons_succ]
      refine steadily_value (i := 5) (v := ?_) rfl rfl (by kernel_rfl) (by kernel_rfl) (fun _ _ _ h => h) (by rfl) ?_ ?_
      rotate_left
      · (intro w' hq; have hc0 := qcell hq s1; go_simp; try with_reducible rfl)
      simp only [Act.put, List.setIfInBounds_toArray, List.set_cons_zero, List.set_cons_succ]
      refine steadily_value (i := 6) (v := ?_) rfl rfl (by kernel_rfl) (by kernel_rfl) (fun _ _ _ h => h) (by rfl) ?_ ?_
      rotate_left
      · (intro w' hq; have hc0 := qcell hq hcL; go_simp; try with_reducible rfl)
      simp only [Act.put, List.setIfInBounds_toArray, List.set_cons_zero, List.set_cons_succ]
      refine steadily_value (i := 7) (v := ?_) rfl rfl (by kernel_rfl) (by kernel_rfl) (fun _ _ _ h => h) (by rfl) ?_ ?_
      rotate_left
      · (intro w' hq; go_simp; try with_reducible rfl)
      simp only [Act.put, List.setIfInBounds_toArray, List.set_cons_zero, List.set_cons_succ]
      refine steadily_value (i := 8) (v := ?_) rfl rfl (by kernel_rfl) (by kernel_rfl) (fun _ _ _ h => h) (by rfl) ?_ ?_
      rotate_left
      · (intro w' hq; have hc0 := qcell hq s2; go_simp; try with_reducible rfl)
      simp only [Act.put, List.setIfInBounds_toArray, List.set_cons_zero, List.set_cons_succ]
      refine steadily_value (i := 9) (v := ?_) rfl rfl (by kernel_rfl) (by kernel_rfl) (fun _ _ _ h => h) (by rfl) ?_ ?_
      rotate_left
      · (intro w' hq; have hc0 := qcell hq hcL; go_simp; try with_reducible rfl)
      simp only [Act.put, List.setIfInBounds_toArray, List.set_cons_zero, List.set_cons_succ]
      refine steadily_value (i := 10) (v := ?_) rfl rfl (by kernel_rfl) (by kernel_rfl) (fun _ _ _ h => h) (by rfl) ?_ ?_
      rotate_left
      · (intro w' hq; go_simp; try with_reducible rfl)
      simp only [Act.put, List.setIfInBounds_toArray, List.set_cons_zero, List.set_cons_succ]
      refine steadily_value (i := 11) (v := ?_) rfl rfl (by kernel_rfl) (by kernel_rfl) (fun _ _ _ h => h) (by rfl) ?_ ?_
      rotate_left
      · (intro w' hq; go_simp; try with_reducible rfl)
      simp only [Act.put, List.setIfInBounds_toArray, List.set_cons_zero, List.set_cons_succ]
      refine steadily_done (by kernel_rfl) (fun w3 hq3 => ?_)
      simp only [List.drop_succ_cons, List.drop_zero]
      have hqq : Q W w3 := Q.trans (Below.drew (Q.refl W)) hq3
      have R3 := hbR.keep hqq hbR.lt
      have B3 := boxed_kc hbB (KC.q hqq)
      have row3 := ownsRow_keep hrow hqq
      have Q3 := Q.trans hQ hqq
      have K3 := (hqq.block _ (Array.getElem?_eq_some_iff.1 hK).1).trans hK
      clear hbR hbB hrow hQ hK hcL hcL0 r0 r1 r2 s0 s1 s2 hq3 hqq
      have c0 := R3.cell 0
      have c1 := R3.cell 1
      have c2 := R3.cell 2
      have c3 := R3.cell 3
      simp only [List.getElem?_cons_zero, List.getElem?_cons_succ] at c0 c1 c2 c3
      have f0 := R3.frozen 0
      have f1 := R3.frozen 1
      have f2 := R3.frozen 2
      have f3 := R3.frozen 3
      have b0 := B3.cell
      have g0 := B3.frozen
      have ko := ((((((KeepsOthers.refl w3).trans (KeepsOthers.setCell w3 ⟨R, 0, none⟩ (.int .i64 a0))).trans (KeepsOthers.setCell _ ⟨R, 1, none⟩ (.int .i64 a1))).trans (KeepsOthers.setCell _ ⟨R, 2, none⟩ (.int .i64 a2))).trans (KeepsOthers.setCell _ ⟨R, 3, none⟩ (.slice (some ⟨g, 3, none⟩) (n - 3) (gc - 3)))).trans (KeepsOthers.setCell _ ⟨R + 1, 0, none⟩ (.bool true)))
      have RR := ((((R3.set 0 (.int .i64 a0)).set 1 (.int .i64 a1)).set 2 (.int .i64 a2)).set 3 (.slice (some ⟨g, 3, none⟩) (n - 3) (gc - 3))).setOther (b' := R + 1) (by omega) 0 (.bool true)
      have BB := Boxed.set (.bool true) (show Boxed _ (R + 1) 4 (.bool false) from Blk.setOther (cs := [_]) (Blk.setOther (cs := [_]) (Blk.setOther (cs := [_]) (Blk.setOther (cs := [_]) B3 (b' := R) (by omega) 0 (.int .i64 a0)) (b' := R) (by omega) 1 (.int .i64 a1)) (b' := R) (by omega) 2 (.int .i64 a2)) (b' := R) (by omega) 3 (.slice (some ⟨g, 3, none⟩) (n - 3) (gc - 3)))
      have QQ := ((((Q3.setCell (p := ⟨R, 0, none⟩) hwR (.int .i64 a0)).setCell (p := ⟨R, 1, none⟩) hwR (.int .i64 a1)).setCell (p := ⟨R, 2, none⟩) hwR (.int .i64 a2)).setCell (p := ⟨R, 3, none⟩) hwR (.slice (some ⟨g, 3, none⟩) (n - 3) (gc - 3))).setCell (p := ⟨R + 1, 0, none⟩) (by simp; omega) (.bool true)
      have hK2 := ko.same D _ K3 rfl
      have kc := KC.put (.deferred none) hK2 rfl
      have ROW := ownsRow_kc (ownsRow_set (i := 0) (x := .bool true) (ownsRow_set (i := 3) (x := .slice (some ⟨g, 3, none⟩) (n - 3) (gc - 3)) (ownsRow_set (i := 2) (x := .int .i64 a2) (ownsRow_set (i := 1) (x := .int .i64 a1) (ownsRow_set (i := 0) (x := .int .i64 a0) row3 (b := R) (by omega)) (b := R) (by omega)) (b := R) (by omega)) (b := R) (by omega)) (b := R + 1) (by omega)) kc
      clear row3 R3 B3 ko Q3
      have HR : Hid (NumO (((((w3.setCell ⟨R, 0, none⟩ (.int .i64 a0)).setCell ⟨R, 1, none⟩ (.int .i64 a1)).setCell ⟨R, 2, none⟩ (.int .i64 a2)).setCell ⟨R, 3, none⟩ (.slice (some ⟨g, 3, none⟩) (n - 3) (gc - 3))).setCell ⟨R + 1, 0, none⟩ (.bool true) |>.putObj D (.deferred none)) (⟨a0, a1, a2, vals.drop 3⟩, .slice (some ⟨g, 3, none⟩) (n - 3) (gc - 3))) := Lib.hid (num_dropO hnn ROW _ rfl)
      have HK2 := Lib.hid hK2
      have HKC := Lib.hid kc
      have HRR := Lib.hid RR
      have HBB := Lib.hid BB
      have HQQ := Lib.hid QQ
      clear ROW hK2 kc RR BB QQ
      go_wp2
      simp only [goesOn]
      go_wp2
      refine ⟨by simp, .inl ⟨_, _, rfl, run_takeDeferred HK2.out, ?_⟩⟩
      exact ⟨_, results_line (HRR.out.kc HKC.out) (boxed_kc HBB.out HKC.out).cell _ rfl _ rfl rfl, .inr ⟨_, _, HX.out, rfl, HR.out⟩, Below.trans HQQ.out (below_put hwD HK2.out _)⟩

theorem cut_line (s : Str) (hs : s.length ≤ 100000) (w : World) (hE : Env w) : Calls Tryz.prog 40 #[.string ⟨s.toArray⟩] w fun e w' => LineRes s e w' ∧ Q w w' :=
  (callsIn_wide (n := 9)).1 (line_in s hs w hE)

end Go.Proofs.YtohlpeicpoaanaaGreatDoor
