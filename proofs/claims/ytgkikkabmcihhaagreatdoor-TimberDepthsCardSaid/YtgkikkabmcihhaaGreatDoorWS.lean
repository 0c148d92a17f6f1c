/-
  Walks: timber.Print.
-/
import Derived.Test.YtgkikkabmcihhaaGreatDoorWQ
import Derived.Test.YtgkikkabmcihhaaGreatDoorWR
import Derived.Test.YtgkikkabmcihhaaGreatDoorBuildB
namespace Go.Proofs.YtgkikkabmcihhaaGreatDoor
open Go.RowKit Kp

theorem builderAt_keep {T e : TypeId} {B b : Nat} {p : Value} {bs : List Value} {w w' : World} (h : Lib.BuilderAt T e B b p bs w) (hb : Below w.heap.size w w') : Lib.BuilderAt T e B b p bs w' := by
  have hl := h.lt
  obtain ⟨hB, v, hc, hown, hne⟩ := h
  exact ⟨hB, v, (hb.block b hl).trans hc, ownsRow_keep hown hb, hne⟩
theorem isBuilder_keep {T e : TypeId} {B b : Nat} {bs : List Value} {w w' : World} (h : Lib.IsBuilder T e B b bs w) (hb : Below w.heap.size w w') : Lib.IsBuilder T e B b bs w' :=
  h.elim (fun x => .inl (builderAt_keep x hb)) (fun x => .inr (builderAt_keep x hb))

/-- What the region of Print's loop leaves alone. -/
abbrev PrS (w : World) (T G K : Nat) (a0 a1 a2 aw : Value) (W : World) : Prop :=
  Blk W T [a0, a1, a2] 35 ∧ W.cell? ⟨T, 0, none⟩ = some a0 ∧ W.cell? ⟨T, 1, none⟩ = some a1 ∧ W.cell? ⟨T, 2, none⟩ = some a2 ∧ W.cell? ⟨G, K, none⟩ = some aw ∧ Q w W
theorem PrS.mk {w W : World} {T G K : Nat} {a0 a1 a2 aw : Value} (h : Blk W T [a0, a1, a2] 35) (hw : W.cell? ⟨G, K, none⟩ = some aw) (hq : Q w W) : PrS w T G K a0 a1 a2 aw W :=
  ⟨h, h.cell 0, h.cell 1, h.cell 2, hw, hq⟩
theorem PrS.q {w W : World} {T G K : Nat} {a0 a1 a2 aw : Value} (h : PrS w T G K a0 a1 a2 aw W) : Q w W := h.2.2.2.2.2
theorem PrS.keep {w W W' : World} {T G K : Nat} {a0 a1 a2 aw : Value} (h : PrS w T G K a0 a1 a2 aw W) (hq : Q W W') : PrS w T G K a0 a1 a2 aw W' :=
  .mk (h.1.keep hq h.1.lt) ((hq.cell (World.block_lt_of_cell? W _ h.2.2.2.2.1)).trans h.2.2.2.2.1) (h.q.trans (hq.mono h.q.size))
theorem PrS.far {w W W' : World} {T G K B0 : Nat} {a0 a1 a2 aw : Value} (h : PrS w T G K a0 a1 a2 aw W) (hb : Below B0 W W') (hf : FarKept W B0 W') (hT : T ≠ B0) (hG : G < B0) (hB : w.heap.size ≤ B0) : PrS w T G K a0 a1 a2 aw W' :=
  .mk (hf _ _ _ _ hT (by decide) h.1) ((hb.cell (p := ⟨G, K, none⟩) hG).trans h.2.2.2.2.1) (h.q.trans (hb.mono hB))

theorem add_rule (P : Program) (a b : Str) (h : a.length + b.length ≤ 1000) (w : World) : (Op.stringOp .add ⟨a.toArray⟩ ⟨b.toArray⟩).run P w = .ok (.string ⟨(a ++ b).toArray⟩) w := by
  rw [run_string_add_sum w _ _ (by show a.length + b.length ≤ _; omega), ByteArray.mk_append_mk]
theorem five (P : Program) (wd A B : Str) (h0 : wd.length ≤ 10) (hA : A.length ≤ 4) (hB : B.length ≤ 4) : ∃ X0 XA XB X1 X2 X3 X4 X5 : ByteArray,
    (⟨wd.toArray⟩ : ByteArray) = X0 ∧ (⟨A.toArray⟩ : ByteArray) = XA ∧ (⟨B.toArray⟩ : ByteArray) = XB ∧
    (∀ w, (Op.stringOp .add X0 ⟨#[32]⟩).run P w = .ok (.string X1) w) ∧ (∀ w, (Op.stringOp .add X1 XA).run P w = .ok (.string X2) w) ∧ (∀ w, (Op.stringOp .add X2 ⟨#[32]⟩).run P w = .ok (.string X3) w) ∧
    (∀ w, (Op.stringOp .add X3 XB).run P w = .ok (.string X4) w) ∧ (∀ w, (Op.stringOp .add X4 ⟨#[10]⟩).run P w = .ok (.string X5) w) ∧
    X5 = ⟨(wd ++ [32] ++ A ++ [32] ++ B ++ [10]).toArray⟩ ∧ X5.size ≤ 30 := by
  refine ⟨_, _, _, _, _, _, _, _, rfl, rfl, rfl, add_rule P _ [32] (by simp; omega), add_rule P _ _ (by simp; omega), add_rule P _ [32] (by simp; omega), add_rule P _ _ (by simp; omega), add_rule P _ [10] (by simp; omega), rfl, ?_⟩
  show (wd ++ [32] ++ A ++ [32] ++ B ++ [10]).length ≤ 30
  simp; omega
theorem sline_len {s : Sz} (h : s.ok) : (sline s).length ≤ 30 := by
  obtain ⟨o1, o2, o3, o4, o5, o6⟩ := h
  have hwl : (wordStrs.getD s.k.toNat []).length ≤ 10 := (by decide : ∀ j : Nat, j < 13 → (wordStrs.getD j []).length ≤ 10) s.k.toNat (by omega)
  have hlw : (Lib.itoa s.w).length ≤ 4 := by rw [show s.w = ((s.w.toNat : Nat) : Int) from by omega, ← dec_eq_itoa]; exact (decDigits_len_le _ 4 (by decide)).2 (by omega)
  have hld : (Lib.itoa s.d).length ≤ 4 := by rw [show s.d = ((s.d.toNat : Nat) : Int) from by omega, ← dec_eq_itoa]; exact (decDigits_len_le _ 4 (by decide)).2 (by omega)
  unfold sline; simp only [List.length_append, List.length_cons, List.length_nil]; omega
theorem sprint_len0 : ∀ (l : List Sz), (∀ s ∈ l, s.ok) → (sprint l).length ≤ 30 * l.length
  | [], _ => by simp [sprint]
  | s :: l, h => by
    have ih := sprint_len0 l (fun x hx => h x (by simp [hx]))
    have hs := sline_len (h s (by simp))
    have e : sprint (s :: l) = sline s ++ sprint l := by unfold sprint; rw [List.flatMap_cons]
    rw [e, List.length_append, List.length_cons]; omega
theorem sprint_len (l : List Sz) (hl : l.length ≤ 1000) (h : ∀ s ∈ l, s.ok) : (sprint l).length ≤ 100000 := by
  have := sprint_len0 l h; omega

set_option maxHeartbeats 1000000 in
theorem timber_Print_bad (l : List Sz) (hln : l.length < 4611686018427387904) (v : Value) (w : World) (hl : SzSl w v l) (hb : scheck l [] ≠ 0) :
    Calls Tryz.prog 25 #[v] w fun e w' => e = .returned (.tuple #[.string ⟨#[]⟩, .int .i64 1]) ∧ Q w w' := by
  obtain ⟨a, cap, rfl, hc⟩ := hl
  have HC := Lib.hid (timber_Check l hln (.slice a l.length cap) w ⟨a, cap, rfl, hc⟩)
  clear hc
  generalize scheck l [] = x at *
  go_enter Tryz.func25, Tryz.ntmps25
  go_wp2_with fail
  refine HC.out.mono ?_
  rintro e w1 ⟨rfl, hQ1⟩
  go_wp2
  go_ret2
  exact ⟨rfl, hQ1⟩

set_option maxRecDepth 100000 in
set_option maxHeartbeats 1000000 in
theorem timber_Print (l : List Sz) (hln : l.length < 1000) (v : Value) (w : World) (hE : Env w) (hl : SzSl w v l) (hb : scheck l [] = 0) :
    Calls Tryz.prog 25 #[v] w fun e w' => e = .returned (.tuple #[.string ⟨(sprint l).toArray⟩, .int .i64 0]) ∧ Q w w' := by
  obtain ⟨a, cap, rfl, hc⟩ := hl
  have HC := timber_Check l (by omega) (.slice a l.length cap) w ⟨a, cap, rfl, hc⟩
  rw [hb] at HC
  go_enter Tryz.func25, Tryz.ntmps25
  go_wp2_with fail
  refine HC.mono ?_
  rintro e w1 ⟨rfl, hQ1⟩
  clear HC
  have hF := Lib.fresh_isBuilder 90 5 w1
  have hbase := hQ1.size
  generalize hB0 : w1.heap.size = B0 at hF
  go_wp2_with fail
  go_loopw [12] (fun i wr => ∃ k : Nat, k ≤ l.length ∧ i = .int .i64 k ∧ Q w wr ∧ Lib.IsBuilder 90 5 B0 B0 (Lib.byteCells (sprint (l.take k))) wr) (fun i _ => l.length - (intOf i).toNat)
  case atStart => exact ⟨0, by omega, rfl, hQ1.alloc hQ1.size _, hF⟩
  case round =>
    obtain ⟨k, hk, rfl, hQ, hW⟩ := hrel
    by_cases hlt : k < l.length
    · obtain ⟨b, o, ha, hbb, c0, c1, c2⟩ := hc k hlt
      subst ha
      have d0 := (hQ.cell (p := ⟨b, o + k * 3, none⟩) hbb).trans c0
      have d1 := (hQ.cell (p := ⟨b, o + k * 3 + 1, none⟩) hbb).trans c1
      have d2 := (hQ.cell (p := ⟨b, o + k * 3 + 2, none⟩) hbb).trans c2
      clear c0 c1 c2 hc
      have hok : (l.getD k ⟨0, 0, 0⟩).ok := by
        have hm : l.getD k ⟨0, 0, 0⟩ ∈ l := by rw [List.getD_eq_getElem?_getD, List.getElem?_eq_getElem hlt]; exact List.getElem_mem hlt
        exact ((scheck_zero l []).1 hb).1 _ hm
      have hT : Hid (sprint (l.take (k + 1)) = sprint (l.take k) ++ sline (l.getD k ⟨0, 0, 0⟩)) := Lib.hid (by
        rw [List.take_succ_eq_append_getElem hlt, List.getD_eq_getElem?_getD, List.getElem?_eq_getElem hlt]
        unfold sprint; rw [List.flatMap_append]; simp only [List.flatMap_cons, List.flatMap_nil, List.append_nil]; rfl)
      generalize l.getD k ⟨0, 0, 0⟩ = s at *
      obtain ⟨sk, sw, sd⟩ := s
      obtain ⟨o1, o2, o3, o4, o5, o6⟩ := hok
      simp only at o1 o2 o3 o4 o5 o6 d0 d1 d2
      obtain ⟨K, rfl⟩ : ∃ K : Nat, sk = K := ⟨sk.toNat, by omega⟩
      have hK12 : K < 13 := by omega
      have hBl : B0 < wr.heap.size := hW.elim (fun x => x.lt) (fun x => x.lt)
      go_wp2_with fail
      have hq0 := hQ.alloc hQ.size (Obj.cells [.int .i64 (K : Nat), .int .i64 sw, .int .i64 sd].toArray 35)
      have BT := Blk.new wr [.int .i64 (K : Nat), .int .i64 sw, .int .i64 sd] 35
      have t0 := BT.cell 0
      have t1 := BT.cell 1
      have t2 := BT.cell 2
      simp only [List.getElem?_cons_zero, List.getElem?_cons_succ] at t0 t1 t2
      have tw := (hE.q hq0).words.cell K hK12
      have hwl : (wordStrs.getD K []).length ≤ 10 := (by decide : ∀ j : Nat, j < 13 → (wordStrs.getD j []).length ≤ 10) K hK12
      have hK0 : (0 : Int) ≤ (K : Int) := by omega
      have hK1 : (K : Int) < 13 := by omega
      have hlw : (Lib.itoa sw).length ≤ 4 := by rw [show sw = ((sw.toNat : Nat) : Int) from by omega, ← dec_eq_itoa]; exact (decDigits_len_le _ 4 (by decide)).2 (by omega)
      have hld : (Lib.itoa sd).length ≤ 4 := by rw [show sd = ((sd.toNat : Nat) : Int) from by omega, ← dec_eq_itoa]; exact (decDigits_len_le _ 4 (by decide)).2 (by omega)
      have HT : Hid (sprint (l.take (k + 1)) = sprint (l.take k) ++ (wordStrs.getD K [] ++ [32] ++ Lib.itoa sw ++ [32] ++ Lib.itoa sd ++ [10])) := Lib.hid (by rw [hT.out]; rfl)
      have HPL : Hid ((sprint (l.take k)).length ≤ 100000) := Lib.hid (sprint_len (l.take k) (by rw [List.length_take]; omega) (fun x hx => ((scheck_zero l []).1 hb).1 _ (List.mem_of_mem_take hx)))
      have HA0 := lib_Itoa sw (by omega) (by omega)
      have HB0 := lib_Itoa sd (by omega) (by omega)
      obtain ⟨X0, XA, XB, X1, X2, X3, X4, X5, x0, xA, xB, r1, r2, r3, r4, r5, x5, x6⟩ := five Tryz.prog (wordStrs.getD K []) (Lib.itoa sw) (Lib.itoa sd) hwl hlw hld
      rw [x0] at tw
      simp only [xA] at HA0
      simp only [xB] at HB0
      have HA := Lib.hid HA0
      have HB := Lib.hid HB0
      have HX5 := Lib.hid x5
      have HX6 := Lib.hid x6
      clear hT HA0 HB0 x0 xA xB x5 x6 hwl hlw hld
      have hW0 := isBuilder_keep hW ((Below.refl wr.heap.size wr).alloc (Nat.le_refl _) (Obj.cells [.int .i64 (K : Nat), .int .i64 sw, .int .i64 sd].toArray 35))
      have hqd : Q w (wr.alloc (Obj.cells #[.int .i64 (K : Nat), .int .i64 sw, .int .i64 sd] 35)).drew := Below.drew hq0
      have hWd : Lib.IsBuilder 90 5 B0 B0 (Lib.byteCells (sprint (l.take k))) (wr.alloc (Obj.cells #[.int .i64 (K : Nat), .int .i64 sw, .int .i64 sd] 35)).drew := hW0
      have hS0 : PrS w wr.heap.size 0 K (.int .i64 (K : Nat)) (.int .i64 sw) (.int .i64 sd) (.string X0) (wr.alloc (Obj.cells #[.int .i64 (K : Nat), .int .i64 sw, .int .i64 sd] 35)).drew := .mk BT tw hqd
      have HWB : Hid (∀ W, Lib.IsBuilder 90 5 B0 B0 (Lib.byteCells (sprint (l.take k))) W → B0 ≤ W.heap.size → Calls Tryz.prog 57 #[.pointer (some ⟨B0, 0, none⟩), .string X5] W fun e w' => e = .returned (.tuple #[.int .i64 X5.size, .nilIface]) ∧ Lib.BuilderAt 90 5 B0 B0 (.pointer (some ⟨B0, 0, none⟩)) (Lib.byteCells (sprint (l.take k)) ++ Lib.strCells X5) w' ∧ Below B0 W w' ∧ FarKept W B0 w') :=
        Lib.hid (fun W hW hB => builder_WriteString2 B0 B0 _ X5 W hW (by rw [Lib.byteCells_length]; have := HPL.out; have := HX6.out; omega) hB)
      have hB1 : w.heap.size ≤ B0 := by omega
      have hBw : B0 ≤ wr.heap.size := Nat.le_of_lt hBl
      have hTB : wr.heap.size ≠ B0 := by omega
      have hG0 : 0 < B0 := by have := hE.size; unfold ng at this; omega
      simp only [PrS] at hS0
      clear o1 o2 o3 o4 o5 o6
      go_region_held3 (fun W => Blk W wr.heap.size [.int .i64 (K : Nat), .int .i64 sw, .int .i64 sd] 35 ∧ W.cell? ⟨wr.heap.size, 0, none⟩ = some (.int .i64 (K : Nat)) ∧ W.cell? ⟨wr.heap.size, 1, none⟩ = some (.int .i64 sw) ∧ W.cell? ⟨wr.heap.size, 2, none⟩ = some (.int .i64 sd) ∧ W.cell? ⟨0, K, none⟩ = some (.string X0) ∧ Q w W)
        (first | exact hS0 | exact PrS.keep hS0 (by assumption) | exact PrS.keep (by assumption) (by assumption) | exact PrS.far (by assumption) (by assumption) (by assumption) hTB hG0 hB1 | go_keep)
        ((first | (go_at_call 58; (with_reducible refine (HA.out _ (hE.q (by first | exact hqd | exact PrS.q (by assumption)))).mono ?_); rintro e w5 ⟨rfl, hq5⟩) | (go_at_call 58; (with_reducible refine (HB.out _ (hE.q (by first | exact hqd | exact PrS.q (by assumption)))).mono ?_); rintro e w6 ⟨rfl, hq6⟩) | (go_at_call 57; (with_reducible refine (HWB.out _ (by exact isBuilder_keep (isBuilder_keep hWd hq5) hq6) (by have q5 := hq5.size; have q6 := hq6.size; simp at q5 q6; omega)).mono ?_); rintro e w7 ⟨rfl, hN, hB7, hF7⟩)))
      have HB5 : Hid (Lib.byteCells (sprint (l.take (k + 1))) = Lib.byteCells (sprint (l.take k)) ++ Lib.strCells X5) := Lib.hid (by rw [HT.out, HX5.out, Lib.byteCells_append]; rfl)
      have hq7 : Q w w7 := PrS.q (by assumption)
      clear HA HB HWB r1 r2 r3 r4 r5
      go_wp2
      go_roundw
      case rel => exact ⟨k + 1, by omega, by go_num, hq7, .inr (by rw [HB5.out]; exact hN)⟩
      case measure => simp [intOf]; omega
    · obtain rfl : k = l.length := by omega
      rw [List.take_length] at hW
      have hBl : B0 < wr.heap.size := hW.elim (fun x => x.lt) (fun x => x.lt)
      have hB1 : w.heap.size ≤ B0 := by omega
      clear hc
      go_wp2_with fail
      refine (Tryz.Builder_String_any B0 B0 (sprint l) _ hW (Nat.le_of_lt hBl)).mono ?_
      rintro e w3 ⟨rfl, hq3⟩
      go_wp2
      go_ret2
      exact ⟨rfl, hQ.trans (hq3.mono hB1)⟩

end Go.Proofs.YtgkikkabmcihhaaGreatDoor
