/-
  Walks of package plan, at a plan of one ring: whether its sides cross.
-/
import Derived.Test.YtohonlboaddppaaGreatDoorPL
namespace Go.Proofs.YtohonlboaddppaaGreatDoor
open Go.RowKit Go.Shelf Kp
attribute [local go_sem] Oper.semAt_some
def bxsN (r : List Sd) (k : Nat) : List Value := (List.range k).flatMap fun i => bxC (boxF (arn r i))
def plsN (k : Nat) : List Value := (List.range k).flatMap fun i => [Value.int .i64 0, .int .i64 (i : Nat)]
theorem bxsN_succ (r : List Sd) (k : Nat) : bxsN r (k + 1) = bxsN r k ++ bxC (boxF (arn r k)) := by unfold bxsN; rw [List.range_succ, List.flatMap_append]; simp
theorem plsN_succ (k : Nat) : plsN (k + 1) = plsN k ++ [Value.int .i64 0, .int .i64 (k : Nat)] := by unfold plsN; rw [List.range_succ, List.flatMap_append]; simp
theorem bxsN_len (r : List Sd) : ∀ k, (bxsN r k).length = k * 4
  | 0 => rfl
  | k + 1 => by rw [bxsN_succ, List.length_append, bxsN_len r k]; simp [bxC]; omega
theorem plsN_len : ∀ k, (plsN k).length = k * 2
  | 0 => rfl
  | k + 1 => by rw [plsN_succ, List.length_append, plsN_len k]; simp; omega
theorem bxsN_at (r : List Sd) {i j : Nat} (hj : j < 4) : ∀ {k}, i < k → (bxsN r k)[i * 4 + j]? = (bxC (boxF (arn r i)))[j]?
  | 0, h => absurd h (Nat.not_lt_zero _)
  | k + 1, h => by
    rw [bxsN_succ]
    rcases Nat.lt_or_ge i k with h1 | h1
    · rw [List.getElem?_append_left (by rw [bxsN_len]; omega)]
      exact bxsN_at r hj h1
    · obtain rfl : i = k := by omega
      rw [List.getElem?_append_right (by rw [bxsN_len]; omega), bxsN_len]
      congr 1; omega
theorem plsN_at {i j : Nat} (hj : j < 2) : ∀ {k}, i < k → (plsN k)[i * 2 + j]? = [Value.int .i64 0, .int .i64 (i : Nat)][j]?
  | 0, h => absurd h (Nat.not_lt_zero _)
  | k + 1, h => by
    rw [plsN_succ]
    rcases Nat.lt_or_ge i k with h1 | h1
    · rw [List.getElem?_append_left (by rw [plsN_len]; omega)]
      exact plsN_at hj h1
    · obtain rfl : i = k := by omega
      rw [List.getElem?_append_right (by rw [plsN_len]; omega), plsN_len]
      congr 1; omega
theorem ownsRow_set {w : World} {base size n : Nat} {e : TypeId} {v : Value} {xs : List Value} (h : w.ownsRow base e size v n xs) {g : Nat} (hg : g < base) (i : Nat) (u : Value) : (w.setCell ⟨g, i, none⟩ u).ownsRow base e size v n xs := by
  refine ⟨h.1, h.2.elim Or.inl ?_⟩
  rintro ⟨g', cap, cur, hv, hg', hc, r⟩
  refine Or.inr ⟨g', cap, cur, hv, hg', ?_, r⟩
  have hne : g' ≠ g := by omega
  simp [World.setCell, Array.getElem?_modify, hc, Ne.symm hne]
theorem row_pos {w : World} {base size n : Nat} {e : TypeId} {v : Value} {xs : List Value} (h : w.ownsRow base e size v n xs) (hn : 0 < n) : ∃ g cap, v = .slice (some ⟨g, 0, none⟩) n cap := by
  cases n with
  | zero => omega
  | succ k => exact ownsRow_succ h
theorem infoBox : (Tryz.prog.info? 282).map (fun i => (i.zero, i.size, i.bytes)) = some (some (.agg #[.int .i64 0, .int .i64 0, .int .i64 0, .int .i64 0]), 4, 32) := by kernel_rfl
theorem infoPlace : (Tryz.prog.info? 285).map (fun i => (i.zero, i.size, i.bytes)) = some (some (.agg #[.int .i64 0, .int .i64 0]), 2, 16) := by kernel_rfl
def noPanic (R : Exit → Act → World → Prop) : Exit → Act → World → Prop
  | .panic _, _, _ => False
  | e, a, w => R e a w
theorem noPanic_le {R : Exit → Act → World → Prop} : ∀ e a w, noPanic R e a w → R e a w := by
  intro e a w h
  cases e with
  | panic c => exact h.elim
  | normal => exact h
  | ret => exact h
  | exit id => exact h
  | goto t => exact h
  | outgrown => exact h
def lowB (B b : Nat) : QRel where
  r := fun a c => B ≤ a.heap.size → b < a.heap.size → Below B a c ∧ c.heap[b]? = a.heap[b]?
  refl := fun _ _ _ => ⟨Below.refl _ _, rfl⟩
  trans := fun h k hb hc => by
    have h1 := h hb hc
    have h2 := k (Nat.le_trans hb h1.1.size) (Nat.lt_of_lt_of_le hc h1.1.size)
    exact ⟨Below.trans h1.1 h2.1, h2.2.trans h1.2⟩
  q := fun h hb hc => ⟨h.mono hb, h.block b hc⟩
structure CrossAt (w : World) (r : List Sd) (k : Nat) (vA vP : Value) (W : World) : Prop where
  bA : Boxed W w.heap.size 279 vA
  bP : Boxed W (w.heap.size + 1) 280 vP
  bR : Boxed W (w.heap.size + 2) 3 (.int .i64 0)
  oA : W.ownsRow (w.heap.size + 4) 282 4 vA k (bxsN r k)
  oP : W.ownsRow (w.heap.size + 4) 285 2 vP k (plsN k)
  q : Q w W
  sz : w.heap.size + 4 ≤ W.heap.size
theorem CrossAt.kc {w : World} {r : List Sd} {k : Nat} {vA vP : Value} {W W' : World} (h : CrossAt w r k vA vP W) (hk : KC W W') (hb : Below (w.heap.size + 4) W W') : CrossAt w r k vA vP W' :=
  ⟨boxed_kc h.bA hk, boxed_kc h.bP hk, boxed_kc h.bR hk, ownsRow_kc h.oA hk, ownsRow_kc h.oP hk, Below.trans h.q (hb.mono (by omega)), Nat.le_trans h.sz hb.size⟩
set_option maxRecDepth 100000 in
set_option maxHeartbeats 4000000 in
theorem crossed_in (r : List Sd) (hlen : r.length ≤ 1000) (hl0 : 0 < r.length) (hcr : ∀ i, i < r.length → ∀ k, k < i → touch1 r i k = false) (v : Value) (w : World) (hv : RgSl w v [r]) :
    CallsIn Fence.wide 9 Tryz.prog 137 #[v] w fun e w' => e = .returned (.bool false) ∧ Q w w' := by
  obtain ⟨a0, cap0, rfl, hc⟩ := hv.ring (by simpa using hl0)
  obtain ⟨b0, o0, a, cap, rfl, hcell, hrow, hba⟩ := hc 0 (by simp)
  have hr0 : ringAt [r] 0 = r := rfl
  rw [hr0] at hcell hrow
  rw [Nat.add_zero] at hcell
  clear hc hv hr0
  have HCR := Lib.hid hcr
  clear hcr
  simp only [List.length_cons, List.length_nil, Nat.zero_add]
  refine callsIn_of_wp_marks Tryz.func137 rfl trivial ?_ rfl
  simp only [Tryz.ntmps137, List.size_toArray, List.length_cons, List.length_nil, Nat.reduceAdd, Nat.reduceSub, Array.replicate_succ, Array.replicate_zero, List.push_toArray, List.append_toArray, List.nil_append, List.cons_append]
  refine wpIn_mono ?_ noPanic_le
  refine wpIn_wide.2 ?_
  have hcw := qcell ((Below.refl _ w).alloc (Nat.le_refl _) (.cells #[.slice none 0 0] 279)) hcell
  have hcw2 := qcell ((Below.refl _ _).alloc (Nat.le_refl _) (.cells #[.slice none 0 0] 280)) hcw
  go_wp2
  refine wp_loop_rounds 2 ?_
  rw [rounds_succ]
  go_wp2_with fail
  refine (plan_sides a r.length cap _).mono ?_
  rintro e w2 ⟨rfl, rfl⟩
  obtain ⟨W2, hW2⟩ : ∃ W2, (((w.alloc (.cells #[.slice none 0 0] 279)).alloc (.cells #[.slice none 0 0] 280)).alloc (.cells #[.int .i64 0] 3)).alloc (.cells #[.slice a r.length cap] 94) = W2 := ⟨_, rfl⟩
  have hq2 : Q w W2 := by rw [← hW2]; exact bt
  have hs2 : W2.heap.size = w.heap.size + 4 := by rw [← hW2]; simp
  have bA : Boxed W2 w.heap.size 279 (.slice none 0 0) := by
    have := (((Boxed.new w 279 (.slice none 0 0)).alloc (.cells #[.slice none 0 0] 280)).alloc (.cells #[.int .i64 0] 3)).alloc (.cells #[.slice a r.length cap] 94)
    rw [hW2] at this; exact this
  have bP : Boxed W2 (w.heap.size + 1) 280 (.slice none 0 0) := by
    have := ((Boxed.new (w.alloc (.cells #[.slice none 0 0] 279)) 280 (.slice none 0 0)).alloc (.cells #[.int .i64 0] 3)).alloc (.cells #[.slice a r.length cap] 94)
    rw [World.size_alloc, hW2] at this; exact this
  have bR : Boxed W2 (w.heap.size + 2) 3 (.int .i64 0) := by
    have := (Boxed.new ((w.alloc (.cells #[.slice none 0 0] 279)).alloc (.cells #[.slice none 0 0] 280)) 3 (.int .i64 0)).alloc (.cells #[.slice a r.length cap] 94)
    rw [World.size_alloc, World.size_alloc, hW2] at this; exact this
  have bS : Boxed W2 (w.heap.size + 3) 94 (.slice a r.length cap) := by
    have := Boxed.new (((w.alloc (.cells #[.slice none 0 0] 279)).alloc (.cells #[.slice none 0 0] 280)).alloc (.cells #[.int .i64 0] 3)) 94 (.slice a r.length cap)
    rw [World.size_alloc, World.size_alloc, World.size_alloc, hW2] at this; exact this
  rw [World.size_alloc, World.size_alloc, World.size_alloc, hW2]
  clear hW2 hcw hcw2
  have hrow2 := hrow.q hq2
  go_wp2_with fail
  refine (wpIn_wide (n := 9)).1 ?_
  refine wpIn_rangeFunc_up (m := 9) (gf := 227) (lb := #[.pointer (some ⟨w.heap.size + 1 + 1 + 1, 0, none⟩)]) (by omega) rfl (enters_of Tryz.func227 (by kernel_rfl) rfl)
    (sides_next (w.heap.size + 1 + 1 + 1) r a cap hlen W2 8 (by omega) bS.cell hrow2) (fun k hk => by
      rw [List.mem_cons] at hk
      rcases hk with rfl | hk
      · omega
      · have := hba k hk; omega) (fun _ => rfl)
    (fun k W => ∃ vA vP, CrossAt w r k vA vP W)
    (fun _ _ => False)
    (fun k W W' h kc hb => by
      obtain ⟨vA, vP, h⟩ := h
      exact ⟨vA, vP, h.kc kc (hb.mono (by omega))⟩) (fun _ _ _ h _ _ => h) ⟨_, _, bA, bP, bR, World.ownsRow_nil _ _ _ _, World.ownsRow_nil _ _ _ _, hq2, by omega⟩
    (fun x a1 W => ∃ b, w.heap.size + 4 ≤ b ∧ a1 = { tmps := #[.slice (some ⟨b0, o0, none⟩) 1 cap0, undef, .bool false, .pointer (some ⟨w.heap.size, 0, none⟩), .pointer (some ⟨w.heap.size + 1, 0, none⟩), .pointer (some ⟨w.heap.size + 1 + 1, 0, none⟩), .slice a r.length cap, .int .i64 (x.1 : Nat), .pointer (some ⟨b, 0, none⟩), undef, undef, undef, undef, undef, .slice (some ⟨b0, o0, none⟩) 1 cap0, .int .i64 1, .int .i64 0, .bool true, .int .i64 0, .pointer (some ⟨b0, o0, none⟩), .slice a r.length cap, .slice a r.length cap, .func (.func 227) #[] #[.pointer (some ⟨w.heap.size + 1 + 1 + 1, 0, none⟩)], .int .i64 (x.1 : Nat), .agg (arnC (arn r x.1)).toArray, undef, undef, undef, undef, undef, undef, undef, undef, undef, undef, undef, undef, undef, undef, undef, undef, undef, undef, undef, undef, undef, undef, undef, undef, undef, undef, undef, undef, undef, undef, undef, undef, undef, undef, undef, undef, undef, undef, undef, undef, undef, undef, undef, undef, undef, undef, undef, undef, undef, undef, undef, undef, undef, undef, undef, undef, undef, undef, undef, undef, undef, undef, undef, undef, undef, undef, undef, undef, undef, undef, undef, undef, undef, undef, undef, undef, undef], defers := [] } ∧ Blk W b (arnC (arn r x.1)) 273)
    (fun x a1 W W' h kc => by
      obtain ⟨b, h1, h2, h3⟩ := h
      exact ⟨b, h1, h2, h3.kc kc⟩)
    ?assign ?body ?done ?stop
  case assign =>
    intro l x W K hW hK
    have hst := fun W => store_arn (arn r x.1) W
    have hk := hK _ (W.alloc (.cells (arnC (arn r x.1)).toArray 273)) ((Below.refl _ W).alloc (Nat.le_refl _) _) ⟨W.heap.size, by omega, rfl, Blk.new W _ _⟩
    clear hK
    gi_wp2
    exact hk
  case stop =>
    rintro D c W _ h _
    exact h.elim
  case body =>
    rintro l k hk a1 W ⟨vA, vP, hC⟩ ⟨b, hbb, rfl, hA⟩
    have hmix : Tryz.prog.follows .mixedOrders = true := by kernel_rfl
    simp only at hA ⊢
    obtain ⟨c0, ci, cz0, cz1, cz2⟩ := info_of infoBox
    obtain ⟨p0, pi, pz0, pz1, pz2⟩ := info_of infoPlace
    have HO := Lib.hid (fun w => plan_boxOf (arn r k) w)
    have HBX := Lib.hid (bxsN_succ r k)
    have HPL := Lib.hid (plsN_succ k)
    have hkl : k ≤ 1000 := by omega
    obtain ⟨lx, ly, hx, hy, hbx⟩ : ∃ lx ly hx hy, boxF (arn r k) = ⟨lx, ly, hx, hy⟩ := ⟨_, _, _, _, rfl⟩
    rw [hbx] at HO HBX
    simp only [bxC] at HO HBX
    clear hbx
    generalize arn r k = ar at *
    obtain ⟨bA, bP, bR, oA, oP, hQ, hsz⟩ := hC
    have hbl : b < W.heap.size := hA.lt
    have H0 : ∀ W', (lowB (w.heap.size + 4) b).r W.drew W' → Below (w.heap.size + 4) W.drew W' ∧ Blk W' b (arnC ar) 273 := fun W' hq => by
      obtain ⟨h1, h2⟩ := hq hsz hbl
      exact ⟨h1, h2.trans hA⟩
    have kA : ∀ W', (lowB (w.heap.size + 4) b).r W.drew W' → W'.cell? ⟨w.heap.size, 0, none⟩ = some vA := fun W' hq => (World.cell?_of_block ((H0 W' hq).1.block w.heap.size (by omega))).trans bA.cell
    have kP : ∀ W', (lowB (w.heap.size + 4) b).r W.drew W' → W'.cell? ⟨w.heap.size + 1, 0, none⟩ = some vP := fun W' hq => (World.cell?_of_block ((H0 W' hq).1.block (w.heap.size + 1) (by omega))).trans bP.cell
    have kR : ∀ W', (lowB (w.heap.size + 4) b).r W.drew W' → W'.cell? ⟨w.heap.size + 1 + 1, 0, none⟩ = some (.int .i64 0) := fun W' hq => (World.cell?_of_block ((H0 W' hq).1.block (w.heap.size + 2) (by omega))).trans bR.cell
    gi_wp2
    refine RF.wpIn_steadily (ρ := lowB (w.heap.size + 4) b) 11 hmix (by kernel_rfl) rfl (by kernel_rfl) ?_
    refine RF.svq 0 rfl (by intro w' hq; have hc0 := kA w' hq; go_simp; try with_reducible rfl) ?_
    refine RF.steadily_value (i := 1) (v := _) rfl rfl (by kernel_rfl) (by kernel_rfl) (fun _ _ _ h => h) (by rfl) (fun w' hq => exec_load_row 273 (.tmp 8) rfl b rfl (H0 w' hq).2 _ Tryz.underlying273 rfl (by kernel_rfl)) ?_
    simp only [Act.put, List.setIfInBounds_toArray, List.set_cons_zero, List.set_cons_succ]
    refine RF.steadily_call (i := 2) (v := _) rfl rfl (by kernel_rfl) (by kernel_rfl) (fun _ _ _ h => h) (by rfl) ?_ (fun w' hq => HO.out w') ?_
    · (intro w' hq; go_simp; try with_reducible rfl)
    simp only [Act.put, List.setIfInBounds_toArray, List.set_cons_zero, List.set_cons_succ]
    refine RF.svq 5 rfl (by intro w' hq; have hc0 := kP w' hq; go_simp; try with_reducible rfl) ?_
    refine RF.svq 6 rfl (by intro w' hq; have hc0 := kR w' hq; go_simp; try with_reducible rfl) ?_
    refine RF.svp 7 ?_
    refine RF.svp 8 ?_
    clear HO kA kP kR H0
    have hG : Gr (w.heap.size + 4) W W.drew := (Gr.refl _ _).drew
    have hszd : w.heap.size + 4 ≤ W.drew.heap.size := hsz
    replace oA : W.drew.ownsRow (w.heap.size + 4) 282 4 vA k (bxsN r k) := oA
    replace oP : W.drew.ownsRow (w.heap.size + 4) 285 2 vP k (plsN k) := oP
    have oneA : ∀ u ∈ [Value.int .i64 lx, .int .i64 ly, .int .i64 hx, .int .i64 hy], u.oneCell' = true := by
      intro z hz
      simp only [List.mem_cons, List.not_mem_nil, or_false] at hz
      rcases hz with rfl | rfl | rfl | rfl <;> rfl
    have oneP : ∀ u ∈ [Value.int .i64 0, .int .i64 (k : Nat)], u.oneCell' = true := by
      intro z hz
      simp only [List.mem_cons, List.not_mem_nil, or_false] at hz
      rcases hz with rfl | rfl <;> rfl
    replace hA : Blk W.drew b (arnC ar) 273 := hA
    refine RF.steadily_both (i := 3) (j := 9) rfl rfl rfl rfl (by kernel_rfl) (by rfl) (by rfl) (fun w1 hq1 K hK => ?m3) (fun w1 hq1 K hK => ?m9)
    case' m3 =>
      have hqa : Q _ (w1.alloc (.cells [.int .i64 lx, .int .i64 ly, .int .i64 hx, .int .i64 hy].toArray 282)) := Q.trans hq1 ((Below.refl _ _).alloc (Nat.le_refl _) _)
      replace hG := hG.q hsz hqa
      replace oA := ownsRow_keep oA hqa
      replace oP := ownsRow_keep oP hqa
      replace hA := hA.keep hqa hA.lt
      have T3 := Blk.new w1 [.int .i64 lx, .int .i64 ly, .int .i64 hx, .int .i64 hy] 282
      refine opwp_make (.slice (some ⟨w1.heap.size, 0, none⟩) 1 1) (.cells #[.int .i64 lx, .int .i64 ly, .int .i64 hx, .int .i64 hy] 282) (by go_simp; try with_reducible rfl) (hK _ _ ((lowB _ _).q ((Below.refl _ _).alloc (Nat.le_refl _) _)) ?_)
      clear hK
      clear hqa hq1
      generalize w1.alloc _ = w2 at *
      generalize w1.heap.size = t3 at *
      simp only [Act.put, List.setIfInBounds_toArray, List.set_cons_zero, List.set_cons_succ]
      refine RF.steadily_both (i := 4) (j := 9) rfl rfl rfl rfl (by kernel_rfl) (by rfl) (by rfl) (fun w3 hq3 K hK => ?m34) (fun w3 hq3 K hK => ?m39)
    case' m34 =>
      replace hG := hG.q hsz hq3
      replace oA := ownsRow_keep oA hq3
      replace oP := ownsRow_keep oP hq3
      replace hA := hA.keep hq3 hA.lt
      replace T3 := T3.keep hq3 T3.lt
      have hsz3 := Nat.le_trans hsz hG.low.size
      refine opwp_append_at w3 (.tmp 25) (.tmp 28) 279 rfl (w.heap.size + 4) 282 c0 _ 4 32 Tryz.underlying279 ci cz0 cz1 cz2 rfl (by decide) vA k (bxsN r k) rfl oA ⟨t3, 0, none⟩ 1 1 [.int .i64 lx, .int .i64 ly, .int .i64 hx, .int .i64 hy] rfl rfl (fun j z hj => by rw [Addr.add_lit, Nat.zero_add]; exact (T3.cell j).trans hj) oneA (by unfold maxLen; omega) (by omega) hsz3 (fun vA2 w4 oA2 hg => hK _ _ (fun h hb => ⟨(Below.refl _ _).grown hg h (fun j hj => (oA.lt j hj).1), hg.block b hb (hA.not_row (by decide) oA)⟩) ?_)
      replace hG := hG.row hsz oA (Nat.le_refl _) hg
      replace hA := hA.grown hg (hA.not_row (by decide) oA)
      replace oP := oP.kept hg (rowsApart oP oA (by decide))
      simp only [Act.put, List.setIfInBounds_toArray, List.set_cons_zero, List.set_cons_succ]
      clear hK hq3 hsz3 T3 hg oA
      refine RF.steadily_make (i := 9) (fun w' => .slice (some ⟨w'.heap.size, 0, none⟩) 1 1) (.cells #[.int .i64 0, .int .i64 (k : Nat)] 285) rfl rfl (by kernel_rfl) (by rfl) (fun w' hq => by go_simp; try with_reducible rfl) (fun w5 hq5 => ?_)
      have hqa : Q _ (w5.alloc (.cells [.int .i64 0, .int .i64 (k : Nat)].toArray 285)) := Q.trans hq5 ((Below.refl _ _).alloc (Nat.le_refl _) _)
      replace hG := hG.q hsz hqa
      replace oA2 := ownsRow_keep oA2 hqa
      replace oP := ownsRow_keep oP hqa
      replace hA := hA.keep hqa hA.lt
      have T9 := Blk.new w5 [.int .i64 0, .int .i64 (k : Nat)] 285
      simp only [Act.put, List.setIfInBounds_toArray, List.set_cons_zero, List.set_cons_succ]
      clear hqa hq5
      generalize w5.alloc _ = w6 at *
      generalize w5.heap.size = t9 at *
    case' m39 =>
      have hqa : Q _ (w3.alloc (.cells [.int .i64 0, .int .i64 (k : Nat)].toArray 285)) := Q.trans hq3 ((Below.refl _ _).alloc (Nat.le_refl _) _)
      replace hG := hG.q hsz hqa
      replace oA := ownsRow_keep oA hqa
      replace oP := ownsRow_keep oP hqa
      replace hA := hA.keep hqa hA.lt
      replace T3 := T3.keep hqa T3.lt
      have T9 := Blk.new w3 [.int .i64 0, .int .i64 (k : Nat)] 285
      refine opwp_make (.slice (some ⟨w3.heap.size, 0, none⟩) 1 1) (.cells #[.int .i64 0, .int .i64 (k : Nat)] 285) (by go_simp; try with_reducible rfl) (hK _ _ ((lowB _ _).q ((Below.refl _ _).alloc (Nat.le_refl _) _)) ?_)
      clear hK
      clear hqa hq3
      generalize w3.alloc _ = w4 at *
      generalize w3.heap.size = t9 at *
      simp only [Act.put, List.setIfInBounds_toArray, List.set_cons_zero, List.set_cons_succ]
      refine RF.steadily_one (i := 4) rfl rfl (by kernel_rfl) (by rfl) (fun w5 hq5 K hK => ?_)
      replace hG := hG.q hsz hq5
      replace oA := ownsRow_keep oA hq5
      replace oP := ownsRow_keep oP hq5
      replace hA := hA.keep hq5 hA.lt
      replace T3 := T3.keep hq5 T3.lt
      replace T9 := T9.keep hq5 T9.lt
      have hsz3 := Nat.le_trans hsz hG.low.size
      refine opwp_append_at w5 (.tmp 25) (.tmp 28) 279 rfl (w.heap.size + 4) 282 c0 _ 4 32 Tryz.underlying279 ci cz0 cz1 cz2 rfl (by decide) vA k (bxsN r k) rfl oA ⟨t3, 0, none⟩ 1 1 [.int .i64 lx, .int .i64 ly, .int .i64 hx, .int .i64 hy] rfl rfl (fun j z hj => by rw [Addr.add_lit, Nat.zero_add]; exact (T3.cell j).trans hj) oneA (by unfold maxLen; omega) (by omega) hsz3 (fun vA2 w6 oA2 hg => hK _ _ (fun h hb => ⟨(Below.refl _ _).grown hg h (fun j hj => (oA.lt j hj).1), hg.block b hb (hA.not_row (by decide) oA)⟩) ?_)
      replace hG := hG.row hsz oA (Nat.le_refl _) hg
      replace hA := hA.grown hg (hA.not_row (by decide) oA)
      replace oP := oP.kept hg (rowsApart oP oA (by decide))
      replace T9 := T9.grown hg (T9.not_row (by decide) oA)
      simp only [Act.put, List.setIfInBounds_toArray, List.set_cons_zero, List.set_cons_succ]
      clear hK hq5 hsz3 T3 hg oA
    case' m9 =>
      have hqa : Q _ (w1.alloc (.cells [.int .i64 0, .int .i64 (k : Nat)].toArray 285)) := Q.trans hq1 ((Below.refl _ _).alloc (Nat.le_refl _) _)
      replace hG := hG.q hsz hqa
      replace oA := ownsRow_keep oA hqa
      replace oP := ownsRow_keep oP hqa
      replace hA := hA.keep hqa hA.lt
      have T9 := Blk.new w1 [.int .i64 0, .int .i64 (k : Nat)] 285
      refine opwp_make (.slice (some ⟨w1.heap.size, 0, none⟩) 1 1) (.cells #[.int .i64 0, .int .i64 (k : Nat)] 285) (by go_simp; try with_reducible rfl) (hK _ _ ((lowB _ _).q ((Below.refl _ _).alloc (Nat.le_refl _) _)) ?_)
      clear hK
      clear hqa hq1
      generalize w1.alloc _ = w2 at *
      generalize w1.heap.size = t9 at *
      simp only [Act.put, List.setIfInBounds_toArray, List.set_cons_zero, List.set_cons_succ]
      refine RF.steadily_make (i := 3) (fun w' => .slice (some ⟨w'.heap.size, 0, none⟩) 1 1) (.cells #[.int .i64 lx, .int .i64 ly, .int .i64 hx, .int .i64 hy] 282) rfl rfl (by kernel_rfl) (by rfl) (fun w' hq => by go_simp; try with_reducible rfl) (fun w3 hq3 => ?_)
      have hqa : Q _ (w3.alloc (.cells [.int .i64 lx, .int .i64 ly, .int .i64 hx, .int .i64 hy].toArray 282)) := Q.trans hq3 ((Below.refl _ _).alloc (Nat.le_refl _) _)
      replace hG := hG.q hsz hqa
      replace oA := ownsRow_keep oA hqa
      replace oP := ownsRow_keep oP hqa
      replace hA := hA.keep hqa hA.lt
      replace T9 := T9.keep hqa T9.lt
      have T3 := Blk.new w3 [.int .i64 lx, .int .i64 ly, .int .i64 hx, .int .i64 hy] 282
      simp only [Act.put, List.setIfInBounds_toArray, List.set_cons_zero, List.set_cons_succ]
      clear hqa hq3
      generalize w3.alloc _ = w4 at *
      generalize w3.heap.size = t3 at *
      refine RF.steadily_one (i := 4) rfl rfl (by kernel_rfl) (by rfl) (fun w5 hq5 K hK => ?_)
      replace hG := hG.q hsz hq5
      replace oA := ownsRow_keep oA hq5
      replace oP := ownsRow_keep oP hq5
      replace hA := hA.keep hq5 hA.lt
      replace T3 := T3.keep hq5 T3.lt
      replace T9 := T9.keep hq5 T9.lt
      have hsz3 := Nat.le_trans hsz hG.low.size
      refine opwp_append_at w5 (.tmp 25) (.tmp 28) 279 rfl (w.heap.size + 4) 282 c0 _ 4 32 Tryz.underlying279 ci cz0 cz1 cz2 rfl (by decide) vA k (bxsN r k) rfl oA ⟨t3, 0, none⟩ 1 1 [.int .i64 lx, .int .i64 ly, .int .i64 hx, .int .i64 hy] rfl rfl (fun j z hj => by rw [Addr.add_lit, Nat.zero_add]; exact (T3.cell j).trans hj) oneA (by unfold maxLen; omega) (by omega) hsz3 (fun vA2 w6 oA2 hg => hK _ _ (fun h hb => ⟨(Below.refl _ _).grown hg h (fun j hj => (oA.lt j hj).1), hg.block b hb (hA.not_row (by decide) oA)⟩) ?_)
      replace hG := hG.row hsz oA (Nat.le_refl _) hg
      replace hA := hA.grown hg (hA.not_row (by decide) oA)
      replace oP := oP.kept hg (rowsApart oP oA (by decide))
      replace T9 := T9.grown hg (T9.not_row (by decide) oA)
      simp only [Act.put, List.setIfInBounds_toArray, List.set_cons_zero, List.set_cons_succ]
      clear hK hq5 hsz3 T3 hg oA
    all_goals
      refine RF.steadily_one (i := 10) rfl rfl (by kernel_rfl) (by rfl) (fun w7 hq7 K hK => ?_)
      replace hG := hG.q hsz hq7
      replace oA2 := ownsRow_keep oA2 hq7
      replace oP := ownsRow_keep oP hq7
      replace hA := hA.keep hq7 hA.lt
      replace T9 := T9.keep hq7 T9.lt
      have hsz3 := Nat.le_trans hsz hG.low.size
      refine opwp_append_at w7 (.tmp 30) (.tmp 34) 280 rfl (w.heap.size + 4) 285 p0 _ 2 16 Tryz.underlying280 pi pz0 pz1 pz2 rfl (by decide) vP k (plsN k) rfl oP ⟨t9, 0, none⟩ 1 1 [.int .i64 0, .int .i64 (k : Nat)] rfl rfl (fun j z hj => by rw [Addr.add_lit, Nat.zero_add]; exact (T9.cell j).trans hj) oneP (by unfold maxLen; omega) (by omega) hsz3 (fun vP2 w8 oP2 hg => hK _ _ (fun h hb => ⟨(Below.refl _ _).grown hg h (fun j hj => (oP.lt j hj).1), hg.block b hb (hA.not_row (by decide) oP)⟩) ?_)
      replace hG := hG.row hsz oP (Nat.le_refl _) hg
      replace hA := hA.grown hg (hA.not_row (by decide) oP)
      replace oA2 := oA2.kept hg (rowsApart oA2 oP (by decide))
      simp only [Act.put, List.setIfInBounds_toArray, List.set_cons_zero, List.set_cons_succ]
      clear hK hq7 hsz3 T9 hg oP
      refine RF.steadily_done (by kernel_rfl) (fun w9 hq9 => ?_)
      simp only [List.drop_succ_cons, List.drop_zero]
      replace hG := hG.q hsz hq9
      replace oA2 := ownsRow_keep oA2 hq9
      replace oP2 := ownsRow_keep oP2 hq9
      obtain ⟨gA, capA, rfl⟩ := ownsRow_succ oA2
      obtain ⟨gP, capP, rfl⟩ := ownsRow_succ oP2
      have bA9 : Boxed w9 w.heap.size 279 vA := (hG.low.block w.heap.size (by omega)).trans bA
      have bP9 : Boxed w9 (w.heap.size + 1) 280 vP := (hG.low.block (w.heap.size + 1) (by omega)).trans bP
      have bR9 : Boxed w9 (w.heap.size + 2) 3 (.int .i64 0) := (hG.low.block (w.heap.size + 2) (by omega)).trans bR
      have hsz9 := Nat.le_trans hsz hG.low.size
      have cA := bA9.cell
      have fA := bA9.frozen
      have cP := boxed_far bP9 (g := w.heap.size) (by omega) 0 (.slice (some ⟨gA, 0, none⟩) (k + 1) capA)
      have hC : CrossAt w r (k + 1) (.slice (some ⟨gA, 0, none⟩) (k + 1) capA) (.slice (some ⟨gP, 0, none⟩) (k + 1) capP) ((w9.setCell ⟨w.heap.size, 0, none⟩ (.slice (some ⟨gA, 0, none⟩) (k + 1) capA)).setCell ⟨w.heap.size + 1, 0, none⟩ (.slice (some ⟨gP, 0, none⟩) (k + 1) capP)) :=
        ⟨boxed_far (bA9.set (.slice (some ⟨gA, 0, none⟩) (k + 1) capA)) (g := w.heap.size + 1) (by omega) 0 (.slice (some ⟨gP, 0, none⟩) (k + 1) capP), cP.set (.slice (some ⟨gP, 0, none⟩) (k + 1) capP), boxed_far (boxed_far bR9 (g := w.heap.size) (by omega) 0 (.slice (some ⟨gA, 0, none⟩) (k + 1) capA)) (g := w.heap.size + 1) (by omega) 0 (.slice (some ⟨gP, 0, none⟩) (k + 1) capP),
          ownsRow_set (ownsRow_set (by rw [HBX.out]; exact oA2) (g := w.heap.size) (by omega) 0 (.slice (some ⟨gA, 0, none⟩) (k + 1) capA)) (g := w.heap.size + 1) (by omega) 0 (.slice (some ⟨gP, 0, none⟩) (k + 1) capP),
          ownsRow_set (ownsRow_set (by rw [HPL.out]; exact oP2) (g := w.heap.size) (by omega) 0 (.slice (some ⟨gA, 0, none⟩) (k + 1) capA)) (g := w.heap.size + 1) (by omega) 0 (.slice (some ⟨gP, 0, none⟩) (k + 1) capP),
          ((Below.trans hQ (hG.low.mono (by omega))).setCell (p := ⟨w.heap.size, 0, none⟩) (by simp) (.slice (some ⟨gA, 0, none⟩) (k + 1) capA)).setCell (p := ⟨w.heap.size + 1, 0, none⟩) (by simp) (.slice (some ⟨gP, 0, none⟩) (k + 1) capP), by simpa using hsz9⟩
      have kf : KeepsFrom W2.heap.size W ((w9.setCell ⟨w.heap.size, 0, none⟩ (.slice (some ⟨gA, 0, none⟩) (k + 1) capA)).setCell ⟨w.heap.size + 1, 0, none⟩ (.slice (some ⟨gP, 0, none⟩) (k + 1) capP)) := ((hG.oth.trans (KeepsOthers.setCell _ _ _)).trans (KeepsOthers.setCell _ _ _)).from _
      have kb : KeepB ((w.heap.size + 1 + 1 + 1) :: blkOf a) W ((w9.setCell ⟨w.heap.size, 0, none⟩ (.slice (some ⟨gA, 0, none⟩) (k + 1) capA)).setCell ⟨w.heap.size + 1, 0, none⟩ (.slice (some ⟨gP, 0, none⟩) (k + 1) capP)) := by
        have hbs : ∀ g, g ≤ w.heap.size + 1 → w.heap.size ≤ g → ∀ k ∈ (w.heap.size + 1 + 1 + 1) :: blkOf a, k ≠ g := fun g h1 h2 k hk => by
          rw [List.mem_cons] at hk
          rcases hk with rfl | hk
          · omega
          · have := hba k hk; omega
        refine ((hG.keepB (fun k hk => ?_)).trans (KeepB.set _ (hbs _ (by omega) (by omega)) _ _)).trans (KeepB.set _ (hbs _ (by omega) (by omega)) _ _)
        rw [List.mem_cons] at hk
        rcases hk with rfl | hk
        · omega
        · have := hba k hk; omega
      have cP2 := cP.cell
      have fP2 := cP.frozen
      clear oA2 oP2 bA9 bP9 bR9 hG cP hA bA bP bR hQ HBX HPL
      go_wp2
      try simp only [goesOn]
      gi_wp2
      exact ⟨kf, kb, _, _, hC⟩
  case done =>
    rintro D W hD ⟨vA, vP, bA, bP, bR, oA, oP, hQ, hsz⟩ hK
    obtain ⟨gA, capA, rfl⟩ := row_pos oA hl0
    obtain ⟨gP, capP, rfl⟩ := row_pos oP hl0
    have HKD : Hid (∀ W', Q W W' → W'.heap[D]? = some (.deferred (some []))) := Lib.hid (fun W' hq => (hq.block D (Array.getElem?_eq_some_iff.1 hK).1).trans hK)
    have HA : Hid (∀ W', Q W W' → ∀ i, i < r.length → ∀ j u, j < 4 → (bxC (boxF (arn r i)))[j]? = some u → W'.cell? ⟨gA, i * 4 + j, none⟩ = some u) := Lib.hid (fun W' hq i hi j u hj hu => by
      have h := oA.cells rfl (i * 4 + j) u (by rw [bxsN_at r hj hi]; exact hu)
      rw [Addr.add_lit, Nat.zero_add] at h
      exact qcell hq h)
    have HP : Hid (∀ W', Q W W' → ∀ i, i < r.length → W'.cell? ⟨gP, i * 2, none⟩ = some (.int .i64 0) ∧ W'.cell? ⟨gP, i * 2 + 1, none⟩ = some (.int .i64 (i : Nat))) := Lib.hid (fun W' hq i hi => by
      have h0 := oP.cells rfl (i * 2 + 0) _ (by rw [plsN_at (by decide) hi]; rfl)
      have h1 := oP.cells rfl (i * 2 + 1) _ (by rw [plsN_at (by decide) hi]; rfl)
      rw [Addr.add_lit, Nat.zero_add] at h0 h1
      exact ⟨qcell hq h0, qcell hq h1⟩)
    have HCA : Hid (∀ W', Q W W' → W'.cell? ⟨w.heap.size, 0, none⟩ = some (.slice (some ⟨gA, 0, none⟩) r.length capA)) := Lib.hid (fun W' hq => qcell hq bA.cell)
    have HCP : Hid (∀ W', Q W W' → W'.cell? ⟨w.heap.size + 1, 0, none⟩ = some (.slice (some ⟨gP, 0, none⟩) r.length capP)) := Lib.hid (fun W' hq => qcell hq bP.cell)
    have HC0 : Hid (∀ W', Q W W' → W'.cell? ⟨b0, o0, none⟩ = some (.slice a r.length cap)) := Lib.hid (fun W' hq => qcell hq (qcell hQ hcell))
    have hlz : (r.length : Int) ≤ 1000 := by omega
    have hDw : w.heap.size ≤ D := by omega
    have wn1 := Go.IntWalk.i64_in ((r.length : Int) - 1) (by omega)
    have cA0 := HCA.out W (Q.refl W)
    clear bA bP bR oA oP hrow hrow2 hcell bS hba hK
    go_wp2
    rw [rounds_succ]
    go_wp2
    go_loopw [39] (fun i wr => ∃ k : Nat, k ≤ r.length ∧ i = .int .i64 k ∧ Q W wr) (fun i _ => r.length - (intOf i).toNat)
    case atStart => exact ⟨0, by omega, rfl, Q.refl _⟩
    case round =>
      obtain ⟨k, hk, rfl, hQr⟩ := hrel
      by_cases hlt : k < r.length
      · have hkz : (k : Int) < r.length := by omega
        have hk0 : (0 : Int) ≤ k := by omega
        have cP := HCP.out wr hQr
        have c0 := HC0.out wr hQr
        obtain ⟨p0, p1⟩ := HP.out wr hQr k hlt
        go_wp2
        go_loopw [43] (fun i wl => ∃ m : Nat, m ≤ k ∧ i = .int .i64 m ∧ Q W wl) (fun i _ => k - (intOf i).toNat)
        case atStart => exact ⟨0, by omega, rfl, hQr⟩
        case round =>
          obtain ⟨m, hm, rfl, hQm⟩ := hrel
          by_cases hlm : m < k
          · have hmz : (m : Int) < k := by omega
            have hmr : (m : Int) < r.length := by omega
            have hm0 : (0 : Int) ≤ m := by omega
            have hml : m < r.length := by omega
            have htc := HCR.out k hlt m hlm
            unfold touch1 at htc
            have cP := HCP.out wr hQm
            have cA := HCA.out wr hQm
            have c0 := HC0.out wr hQm
            obtain ⟨p0, p1⟩ := HP.out wr hQm k hlt
            obtain ⟨s0, s1⟩ := HP.out wr hQm m hml
            have hgp1 : (1 : Int) ≤ (k : Int) - m := by omega
            have hgp2 : (k : Int) - m ≤ 1000 := by omega
            have a0 := HA.out wr hQm k hlt 0 _ (by decide) rfl
            have a1 := HA.out wr hQm k hlt 1 _ (by decide) rfl
            have a2 := HA.out wr hQm k hlt 2 _ (by decide) rfl
            have a3 := HA.out wr hQm k hlt 3 _ (by decide) rfl
            have q0 := HA.out wr hQm m hml 0 _ (by decide) rfl
            have q1 := HA.out wr hQm m hml 1 _ (by decide) rfl
            have q2 := HA.out wr hQm m hml 2 _ (by decide) rfl
            have q3 := HA.out wr hQm m hml 3 _ (by decide) rfl
            rw [Nat.add_zero] at a0 q0
            have HM := Lib.hid (fun w => plan_meets (boxF (arn r k)) (boxF (arn r m)) w)
            obtain ⟨lx, ly, hx, hy⟩ := boxF (arn r k)
            obtain ⟨mx, my, gx, gy⟩ := boxF (arn r m)
            simp only [bxC] at HM a0 a1 a2 a3 q0 q1 q2 q3
            generalize meetsF _ _ = mt at *
            have wgp := Go.IntWalk.i64_in ((k : Int) - m) (by omega)
            clear HA HP HCR
            obtain ⟨gp, hgp⟩ : ∃ g, (k : Int) - m = g := ⟨_, rfl⟩
            rw [hgp] at htc wgp hgp1 hgp2
            go_wp2_with fail
            refine wp_steadily 12 rfl (by kernel_rfl) rfl ?_
            refine svq 0 rfl (by intro w' hq; have hc0 := qcell hq cP; go_simp; try with_reducible rfl) ?_
            refine svp 1 ?_
            refine svp 2 ?_
            refine svp 3 ?_
            refine svq 4 rfl (by intro w' hq; have hc0 := qcell hq p1; go_simp; try with_reducible rfl) ?_
            refine svq 5 rfl (by intro w' hq; have hc0 := qcell hq cP; go_simp; try with_reducible rfl) ?_
            refine svp 6 ?_
            refine svp 7 ?_
            refine svp 8 ?_
            refine svq 9 rfl (by intro w' hq; have hc0 := qcell hq s1; go_simp; try with_reducible rfl) ?_
            refine svp 10 ?_
            refine svp 11 ?_
            refine steadily_done (by kernel_rfl) (fun w3 hq3 => ?_)
            simp only [List.drop_succ_cons, List.drop_nil]
            have hqw : Q wr w3 := Q.trans (Below.drew (Q.refl _)) hq3
            replace cP := qcell hqw cP
            replace cA := qcell hqw cA
            replace p0 := qcell hqw p0
            replace s0 := qcell hqw s0
            have hQ3 := Q.trans hQm hqw
            have ee : ((0 : Int) == 0) = true := rfl
            cases e1 : (gp == 1) <;> cases e2 : (gp == (r.length : Int) - 1)
            case false.false =>
              have hmt : mt = false := by simpa [e1, e2] using htc
              subst hmt
              clear htc
              go_wp2_with fail
              refine wp_steadily 22 rfl (by kernel_rfl) rfl ?_
              refine svq 0 rfl (by intro w' hq; have hc0 := qcell hq cP; go_simp; try with_reducible rfl) ?_
              refine svp 1 ?_
              refine svp 2 ?_
              refine svp 3 ?_
              refine svq 4 rfl (by intro w' hq; have hc0 := qcell hq p0; go_simp; try with_reducible rfl) ?_
              refine svq 5 rfl (by intro w' hq; have hc0 := qcell hq cP; go_simp; try with_reducible rfl) ?_
              refine svp 6 ?_
              refine svp 7 ?_
              refine svp 8 ?_
              refine svq 9 rfl (by intro w' hq; have hc0 := qcell hq s0; go_simp; try with_reducible rfl) ?_
              refine svp 10 ?_
              refine svp 11 ?_
              refine svp 12 ?_
              refine svp 13 ?_
              refine svp 14 ?_
              refine svp 15 ?_
              refine svp 16 ?_
              refine svp 17 ?_
              refine svp 18 ?_
              refine svp 19 ?_
              refine svp 20 ?_
              refine svp 21 ?_
              refine steadily_done (by kernel_rfl) (fun w5 hq5 => ?_)
              simp only [List.drop_succ_cons, List.drop_nil]
              have hqv : Q w3 w5 := Q.trans (Below.drew (Q.refl _)) hq5
              replace cA := qcell hqv cA
              replace a0 := qcell hqv (qcell hqw a0)
              replace a1 := qcell hqv (qcell hqw a1)
              replace a2 := qcell hqv (qcell hqw a2)
              replace a3 := qcell hqv (qcell hqw a3)
              replace q0 := qcell hqv (qcell hqw q0)
              replace q1 := qcell hqv (qcell hqw q1)
              replace q2 := qcell hqv (qcell hqw q2)
              replace q3 := qcell hqv (qcell hqw q3)
              have hQ5 := Q.trans hQ3 hqv
              go_wp2_with fail
              refine wp_steadily 13 rfl (by kernel_rfl) rfl ?_
              refine svp 0 ?_
              refine svp 1 ?_
              refine svp 2 ?_
              refine svq 3 rfl (by intro w' hq; have hc0 := qcell hq cA; go_simp; try with_reducible rfl) ?_
              refine svp 4 ?_
              refine svp 5 ?_
              refine svq 6 rfl (by intro w' hq; have hc0 := qcell hq a0; have hc1 := qcell hq a1; have hc2 := qcell hq a2; have hc3 := qcell hq a3; go_simp; try with_reducible rfl) ?_
              refine svq 7 rfl (by intro w' hq; have hc0 := qcell hq cA; go_simp; try with_reducible rfl) ?_
              refine svp 8 ?_
              refine svp 9 ?_
              refine svq 10 rfl (by intro w' hq; have hc0 := qcell hq q0; have hc1 := qcell hq q1; have hc2 := qcell hq q2; have hc3 := qcell hq q3; go_simp; try with_reducible rfl) ?_
              refine steadily_call (i := 11) (v := _) rfl rfl (by kernel_rfl) (by kernel_rfl) (fun _ _ _ h => h) (by rfl) ?_ (fun w' hq => HM.out w') ?_
              · (intro w' hq; go_simp; try with_reducible rfl)
              simp only [Act.put, List.setIfInBounds_toArray, List.set_cons_zero, List.set_cons_succ]
              refine svp 12 ?_
              refine steadily_done (by kernel_rfl) (fun w7 hq7 => ?_)
              simp only [List.drop_succ_cons, List.drop_nil]
              have hQ7 := Q.trans hQ5 (Q.trans (Below.drew (Q.refl _)) hq7)
              go_wp2
              go_roundw
              case rel => exact ⟨m + 1, by omega, by go_num, hQ7⟩
              case measure => simp [intOf]; omega
            case false.true =>
              clear htc
              go_wp2_with fail
              refine wp_steadily 22 rfl (by kernel_rfl) rfl ?_
              refine svq 0 rfl (by intro w' hq; have hc0 := qcell hq cP; go_simp; try with_reducible rfl) ?_
              refine svp 1 ?_
              refine svp 2 ?_
              refine svp 3 ?_
              refine svq 4 rfl (by intro w' hq; have hc0 := qcell hq p0; go_simp; try with_reducible rfl) ?_
              refine svq 5 rfl (by intro w' hq; have hc0 := qcell hq cP; go_simp; try with_reducible rfl) ?_
              refine svp 6 ?_
              refine svp 7 ?_
              refine svp 8 ?_
              refine svq 9 rfl (by intro w' hq; have hc0 := qcell hq s0; go_simp; try with_reducible rfl) ?_
              refine svp 10 ?_
              refine svp 11 ?_
              refine svp 12 ?_
              refine svp 13 ?_
              refine svp 14 ?_
              refine svp 15 ?_
              refine svp 16 ?_
              refine svp 17 ?_
              refine svp 18 ?_
              refine svp 19 ?_
              refine svp 20 ?_
              refine svp 21 ?_
              refine steadily_done (by kernel_rfl) (fun w5 hq5 => ?_)
              simp only [List.drop_succ_cons, List.drop_nil]
              have hqv : Q w3 w5 := Q.trans (Below.drew (Q.refl _)) hq5
              have hQ5 := Q.trans hQ3 hqv
              go_wp2_with fail
              refine wp_steadily 13 rfl (by kernel_rfl) rfl ?_
              refine svp 0 ?_
              refine svp 1 ?_
              refine svp 2 ?_
              refine svi 3 ?_
              refine svi 4 ?_
              refine svi 5 ?_
              refine svi 6 ?_
              refine svi 7 ?_
              refine svi 8 ?_
              refine svi 9 ?_
              refine svi 10 ?_
              refine svi 11 ?_
              refine svp 12 ?_
              refine steadily_done (by kernel_rfl) (fun w7 hq7 => ?_)
              simp only [List.drop_succ_cons, List.drop_nil]
              have hQ7 := Q.trans hQ5 (Q.trans (Below.drew (Q.refl _)) hq7)
              go_wp2
              go_roundw
              case rel => exact ⟨m + 1, by omega, by go_num, hQ7⟩
              case measure => simp [intOf]; omega
            all_goals
              clear htc
              go_wp2_with fail
              refine wp_steadily 22 rfl (by kernel_rfl) rfl ?_
              refine svq 0 rfl (by intro w' hq; have hc0 := qcell hq cP; go_simp; try with_reducible rfl) ?_
              refine svp 1 ?_
              refine svp 2 ?_
              refine svp 3 ?_
              refine svq 4 rfl (by intro w' hq; have hc0 := qcell hq p0; go_simp; try with_reducible rfl) ?_
              refine svq 5 rfl (by intro w' hq; have hc0 := qcell hq cP; go_simp; try with_reducible rfl) ?_
              refine svp 6 ?_
              refine svp 7 ?_
              refine svp 8 ?_
              refine svq 9 rfl (by intro w' hq; have hc0 := qcell hq s0; go_simp; try with_reducible rfl) ?_
              refine svp 10 ?_
              refine svp 11 ?_
              refine svp 12 ?_
              refine svp 13 ?_
              refine svp 14 ?_
              refine svi 15 ?_
              refine svi 16 ?_
              refine svi 17 ?_
              refine svi 18 ?_
              refine svp 19 ?_
              refine svp 20 ?_
              refine svp 21 ?_
              refine steadily_done (by kernel_rfl) (fun w5 hq5 => ?_)
              simp only [List.drop_succ_cons, List.drop_nil]
              have hqv : Q w3 w5 := Q.trans (Below.drew (Q.refl _)) hq5
              have hQ5 := Q.trans hQ3 hqv
              go_wp2_with fail
              refine wp_steadily 13 rfl (by kernel_rfl) rfl ?_
              refine svp 0 ?_
              refine svp 1 ?_
              refine svp 2 ?_
              refine svi 3 ?_
              refine svi 4 ?_
              refine svi 5 ?_
              refine svi 6 ?_
              refine svi 7 ?_
              refine svi 8 ?_
              refine svi 9 ?_
              refine svi 10 ?_
              refine svi 11 ?_
              refine svp 12 ?_
              refine steadily_done (by kernel_rfl) (fun w7 hq7 => ?_)
              simp only [List.drop_succ_cons, List.drop_nil]
              have hQ7 := Q.trans hQ5 (Q.trans (Below.drew (Q.refl _)) hq7)
              go_wp2
              go_roundw
              case rel => exact ⟨m + 1, by omega, by go_num, hQ7⟩
              case measure => simp [intOf]; omega
          · obtain rfl : m = k := by omega
            go_wp2
            go_roundw
            case rel => exact ⟨m + 1, by omega, by go_num, hQm⟩
            case measure => simp [intOf]; omega
      · obtain rfl : k = r.length := by omega
        have hKD := HKD.out wr hQr
        go_wp2
        refine ⟨by simp, .inl ⟨_, _, rfl, run_takeDeferred hKD, ?_⟩⟩
        exact ⟨_, results_tmp rfl _ _ _, rfl, Below.trans (Q.trans hQ hQr) (below_put hDw hKD _)⟩
theorem plan_crossed (r : List Sd) (hlen : r.length ≤ 1000) (hl0 : 0 < r.length) (hcr : crossedF [r] = false) (v : Value) (w : World) (hv : RgSl w v [r]) :
    Calls Tryz.prog 137 #[v] w fun e w' => e = .returned (.bool (crossedF [r])) ∧ Q w w' := by
  rw [hcr]
  rw [crossed_one] at hcr
  refine callsIn_wide.1 (crossed_in r hlen hl0 (fun i hi k hk => ?_) v w hv)
  cases h : touch1 r i k with
  | false => rfl
  | true => rw [cross1_yes hi hk h] at hcr; cases hcr
end Go.Proofs.YtohonlboaddppaaGreatDoor
