/-
  strings.Builder once more, with all that it leaves alone; strings.Repeat of a zero.; Walks of package integer: write, result.
-/
import Derived.Test.YtohonlboaddppaaGreatDoorBuildB
import Derived.Test.YtohonlboaddppaaGreatDoorBI1
import Derived.Test.YtohonlboaddppaaGreatDoorBL
namespace Go.Proofs.YtohonlboaddppaaGreatDoor
open Go.RowKit Kp
def Far (w : World) (b : Nat) (w' : World) : Prop := w.heap.size ≤ w'.heap.size ∧ ∀ k o, k ≠ b → (∀ cs fr, o ≠ Obj.cells cs 5 fr) → w.heap[k]? = some o → w'.heap[k]? = some o
theorem own_ne {w : World} {base n k : Nat} {e : TypeId} {v : Value} {xs : List Value} {o : Obj} (h : w.ownsRow base e 1 v n xs) (hk : w.heap[k]? = some o) (ho : ∀ cs fr, o ≠ Obj.cells cs e fr) (he : some k = v.ownBlock) : False := by
  rcases h.2 with ⟨rfl, _⟩ | ⟨g, cap, cur, rfl, _, hg, _⟩
  · cases he
  · have : k = g := Option.some.inj he
    subst this
    rw [hg] at hk
    exact ho _ _ (Option.some.inj hk).symm
theorem Far.boxed {w w' : World} {b g : Nat} {t : TypeId} {v : Value} (h : Far w b w') (hb : Boxed w g t v) (hne : g ≠ b) (ht : t ≠ 5) : Boxed w' g t v := h.2 _ _ hne (fun cs fr e => ht (by cases e; rfl)) hb
theorem Far.keeps {w w' : World} {b B : Nat} (h : Far w b w') {cs : Array Value} {t : TypeId} {f : Nat × Nat} (hb : w.heap[b]? = some (.cells cs t f)) : KeepsFrom B w w' := (KeepsOthers.from ⟨h.1, fun k o hk ho => h.2 k o (fun e => by subst e; rw [hb] at hk; cases hk; cases ho) (fun cs fr e => by subst e; cases ho) hk⟩ B)
set_option maxHeartbeats 2000000 in
set_option maxRecDepth 100000 in
theorem builder_WriteByte3 (B b : Nat) (bs : List Value) (c : Int) (w : World) (h : Lib.IsBuilder 250 5 B b bs w) (hlen : bs.length + 1 ≤ 140737488355328) (hBw : B ≤ w.heap.size) :
    Calls Tryz.prog 169 #[.pointer (some ⟨b, 0, none⟩), .int .u8 c] w fun e w' => e = .returned .nilIface ∧ (Lib.BuilderAt 250 5 B b (.pointer (some ⟨b, 0, none⟩)) (bs ++ [.int .u8 c]) w' ∧ Below B w w' ∧ Far w b w') := by
  obtain ⟨i0, hi, hz0, hz1, hz2⟩ := info_parts infoByte
  go_enter Tryz.func169, Tryz.ntmps169
  go_wp2_with (go_at_call 216; refine (builder_copyCheck2 B b bs _ h).mono ?_)
  rintro e w1 ⟨rfl, h1, hb1, HK⟩
  obtain ⟨hB, v, hbk, hown, hne⟩ := h1
  have c0 : w1.cell? ⟨b, 0, none⟩ = some (.pointer (some ⟨b, 0, none⟩)) := by rw [Lib.cell_of_heap hbk]; rfl
  have c1 : w1.cell? ⟨b, 1, none⟩ = some v := by rw [Lib.cell_of_heap hbk]; rfl
  go_wp2_with (at_builtin; refine wpList_append_own _ rfl _ _ 244 rfl B 5 i0 (.int .u8 0) 1 1 Tryz.underlying244 hi hz0 hz1 hz2 rfl (by decide) _ _ _ rfl (hown.alloc _) ⟨w1.heap.size, 0, none⟩ 1 1 [.int .u8 c] rfl rfl ?c1 ?c2 ?c3 ?c4 ?c5 ?_)
  case c1 =>
    intro j u hj
    match j, hj with
    | 0, hj => simp at hj; subst hj; simp [Addr.add]
  case c2 => intro u hu; simp at hu; subst hu; rfl
  case c3 => unfold maxLen; omega
  case c4 => omega
  case c5 => have := hb1.size; simp; omega
  intro v' w2 hown' hgrow _
  have hlt : b < w1.heap.size := by
    rcases Nat.lt_or_ge b w1.heap.size with h' | h'
    · exact h'
    · simp [Array.getElem?_eq_none h'] at hbk
  have hb2 : w2.heap[b]? = some (.cells #[.pointer (some ⟨b, 0, none⟩), v] 250 (0, 0)) := by
    rw [hgrow.block b (by simp; omega) (fun e => hne e.symm), Lib.alloc_old w1 _ b hlt]
    exact hbk
  have HF : Hid (Far w b (w2.setCell ⟨b, 1, none⟩ v')) := Lib.hid ⟨by have := hb1.size; have := hgrow.size; simp [World.setCell] at *; omega, fun k o hk hT hc => by
    have e1 := (HK.out k hk).trans hc
    have hlk : k < w1.heap.size := (Array.getElem?_eq_some_iff.1 e1).1
    rw [Below.heap_setCell _ _ _ _ (fun e => hk e), hgrow.block k (by simp; omega) (fun e => own_ne hown e1 hT e), Lib.alloc_old w1 _ k hlk]
    exact e1⟩
  have d0 : w2.cell? ⟨b, 0, none⟩ = some (.pointer (some ⟨b, 0, none⟩)) := by rw [Lib.cell_of_heap hb2]; rfl
  have d1 : w2.cell? ⟨b, 1, none⟩ = some v := by rw [Lib.cell_of_heap hb2]; rfl
  have f1 : w2.frozen? ⟨b, 1, none⟩ = false := Lib.frozen_of_heap hb2 1
  obtain ⟨g, cap, rfl⟩ : ∃ g cap, v' = .slice (some ⟨g, 0, none⟩) (bs.length + 1) cap := by
    rcases hown'.2 with ⟨_, h0⟩ | ⟨g, cap, cur, hv, _⟩
    · omega
    · exact ⟨g, cap, hv⟩
  go_wp2
  go_ret
  refine ⟨rfl, ?_, ?_, HF.out⟩
  · exact Lib.BuilderAt.put (T := 250) (e := 5) hB hb2 (bs' := bs ++ [.int .u8 c]) (by simpa using hown') (by decide)
  · exact ((hb1.alloc (by have := hb1.size; omega) _).grown hgrow (by have := hb1.size; simp; omega) (fun k hk => (hown.lt k hk).1)).setCell (p := ⟨b, 1, none⟩) hB _
set_option maxHeartbeats 2000000 in
set_option maxRecDepth 100000 in
theorem builder_WriteString3 (B b : Nat) (bs : List Value) (s : ByteArray) (w : World) (h : Lib.IsBuilder 250 5 B b bs w) (hlen : bs.length + s.size ≤ 140737488355328) (hBw : B ≤ w.heap.size) :
    Calls Tryz.prog 170 #[.pointer (some ⟨b, 0, none⟩), .string s] w fun e w' => e = .returned (.tuple #[.int .i64 s.size, .nilIface]) ∧ Lib.BuilderAt 250 5 B b (.pointer (some ⟨b, 0, none⟩)) (bs ++ Lib.strCells s) w' ∧ Below B w w' ∧ Far w b w' := by
  obtain ⟨i0, hi, hz0, hz1, hz2⟩ := info_parts infoByte
  go_enter Tryz.func170, Tryz.ntmps170
  go_wp2_with (go_at_call 216; refine (builder_copyCheck2 B b bs _ h).mono ?_)
  rintro e w1 ⟨rfl, h1, hb1, HK⟩
  obtain ⟨hB, v, hbk, hown, hne⟩ := h1
  have c0 : w1.cell? ⟨b, 0, none⟩ = some (.pointer (some ⟨b, 0, none⟩)) := by rw [Lib.cell_of_heap hbk]; rfl
  have c1 : w1.cell? ⟨b, 1, none⟩ = some v := by rw [Lib.cell_of_heap hbk]; rfl
  go_wp2_with (at_builtin; refine Lib.wpList_append_own_string _ rfl _ _ 244 9 rfl B 5 i0 Tryz.underlying244 Tryz.underlying9 hi hz0 hz1 hz2 _ _ _ rfl hown s rfl ?c3 ?c4 ?c5 ?_)
  case c3 => unfold maxLen; omega
  case c4 => omega
  case c5 => have := hb1.size; omega
  intro v' w2 hown' hgrow _
  have hlt : b < w1.heap.size := by
    rcases Nat.lt_or_ge b w1.heap.size with h' | h'
    · exact h'
    · simp [Array.getElem?_eq_none h'] at hbk
  have hb2 : w2.heap[b]? = some (.cells #[.pointer (some ⟨b, 0, none⟩), v] 250 (0, 0)) := by
    rw [hgrow.block b hlt (fun e => hne e.symm)]
    exact hbk
  have HF : Hid (Far w b (w2.setCell ⟨b, 1, none⟩ v')) := Lib.hid ⟨by have := hb1.size; have := hgrow.size; simp [World.setCell]; omega, fun k o hk hT hc => by
    have e1 := (HK.out k hk).trans hc
    have hlk : k < w1.heap.size := (Array.getElem?_eq_some_iff.1 e1).1
    rw [Below.heap_setCell _ _ _ _ (fun e => hk e), hgrow.block k hlk (fun e => own_ne hown e1 hT e)]
    exact e1⟩
  have d0 : w2.cell? ⟨b, 0, none⟩ = some (.pointer (some ⟨b, 0, none⟩)) := by rw [Lib.cell_of_heap hb2]; rfl
  have d1 : w2.cell? ⟨b, 1, none⟩ = some v := by rw [Lib.cell_of_heap hb2]; rfl
  have f1 : w2.frozen? ⟨b, 1, none⟩ = false := Lib.frozen_of_heap hb2 1
  obtain ⟨ao, n', cap, rfl⟩ : ∃ ao n' cap, v' = .slice ao n' cap := by
    rcases hown'.2 with ⟨hv, _⟩ | ⟨g, cap, cur, hv, _⟩
    · exact ⟨_, _, _, hv⟩
    · exact ⟨_, _, _, hv⟩
  go_wp2
  go_ret2
  refine ⟨rfl, ?_, ?_, HF.out⟩
  · exact Lib.BuilderAt.put (T := 250) (e := 5) hB hb2 (bs' := bs ++ Lib.strCells s) (by simpa [Lib.strCells_length] using hown') (by decide)
  · exact (hb1.grown hgrow (by have := hb1.size; omega) (fun k hk => (hown.lt k hk).1)).setCell (p := ⟨b, 1, none⟩) hB _
theorem repeat_zero (n : Nat) : (Lib.repeatL (⟨#[48]⟩ : ByteArray).data.toList n) = zerosS n := by
  show Lib.repeatL [48] n = List.replicate n 48
  induction n with
  | zero => rfl
  | succ n ih => rw [List.replicate_succ, ← ih]; simp [Lib.repeatL]
theorem lib_Repeat0 (n : Nat) (hn : n ≤ 1000) (w : World) :
    Calls Tryz.prog 171 #[.string ⟨#[48]⟩, .int .i64 n] w fun e w' => e = .returned (.string ⟨(zerosS n).toArray⟩) ∧ Q w w' := by
  match n with
  | 0 =>
    refine (Tryz.strings_Repeat_zero ⟨#[48]⟩ w).mono ?_
    rintro e w' ⟨rfl, rfl⟩
    exact ⟨rfl, Below.refl _ _⟩
  | 1 =>
    refine (Tryz.strings_Repeat_one ⟨#[48]⟩ w).mono ?_
    rintro e w' ⟨rfl, rfl⟩
    exact ⟨rfl, Below.refl _ _⟩
  | n + 2 =>
    refine (Tryz.strings_Repeat_main ⟨#[48]⟩ (n + 2) w (by omega) (by omega) (by show 1 * (n + 2) ≤ _; omega) (by decide)).mono ?_
    rintro e w' ⟨rfl, h⟩
    exact ⟨by rw [repeat_zero], h⟩
end Go.Proofs.YtohonlboaddppaaGreatDoor
namespace Go.Proofs.YtohonlboaddppaaGreatDoor
open Go.RowKit Go.Shelf Kp
open Go.Lib (decDigits)
attribute [local go_sem] Oper.semAt_some
theorem builderAt_kc {T e : TypeId} {B b : Nat} {p : Value} {bs : List Value} {w w' : World} (h : Lib.BuilderAt T e B b p bs w) (k : KC w w') : Lib.BuilderAt T e B b p bs w' := by
  obtain ⟨hB, v, hc, hown, hne⟩ := h
  exact ⟨hB, v, k.2 _ _ _ _ hc, ownsRow_kc hown k, hne⟩
theorem isBuilder_kc {T e : TypeId} {B b : Nat} {bs : List Value} {w w' : World} (h : Lib.IsBuilder T e B b bs w) (k : KC w w') : Lib.IsBuilder T e B b bs w' :=
  h.elim (fun x => .inl (builderAt_kc x k)) (fun x => .inr (builderAt_kc x k))
theorem isBuilder_cells {T e : TypeId} {B b : Nat} {bs : List Value} {w : World} (h : Lib.IsBuilder T e B b bs w) : ∃ cs, w.heap[b]? = some (.cells cs T (0, 0)) := by
  rcases h with ⟨_, v, hc, _⟩ | ⟨_, v, hc, _⟩
  · exact ⟨_, hc⟩
  · exact ⟨_, hc⟩
theorem byteCells_str (a b : Str) : Lib.byteCells (a ++ b) = Lib.byteCells a ++ Lib.strCells ⟨b.toArray⟩ := by rw [Lib.byteCells_append]; rfl
theorem keepB_two {w w' : World} {S b B : Nat} {t : TypeId} {v : Value} (h : Boxed w S t v) (h' : Boxed w' S t v) (hb : Below B w w') (hB : b < B) : KeepB [S, b] w w' := fun k hk hlt => by
  rcases List.mem_cons.1 hk with rfl | hk
  · exact h'.trans h.symm
  · obtain rfl : k = b := by simpa using hk
    exact hb.block k hB
set_option maxRecDepth 100000 in
set_option maxHeartbeats 1000000 in
theorem write_in (z : Int) (hz : 0 < z) (mi : Bool) (lz : (limbs LB z).length ≤ 50000) (v1 : Value) (w : World) (hE : Env w) (i1 : IntSl w v1 (limbs LB z)) :
    CallsIn Fence.wide 9 Tryz.prog 125 #[.agg #[.bool mi, v1]] w fun e w' => e = .returned (.string ⟨((if mi then [45] else []) ++ decDigits z.toNat).toArray⟩) ∧ Q w w' := by
  have dz := limbs_dig (B := LB) (by decide) z
  have hlast := Lib.hid (limbs_last (B := LB) (by decide) z)
  have hdone := Lib.hid (wtext_done hz)
  have hn0 : 0 < (limbs LB z).length := by rw [limbs_pos (by decide) hz]; simp
  generalize limbs LB z = l at *
  obtain ⟨n, hn⟩ : ∃ n, l.length = n := ⟨_, rfl⟩
  obtain ⟨bA, oA, cA, rfl, hA⟩ : ∃ b o cap, v1 = .slice (some ⟨b, o, none⟩) n cap ∧ IntAt w b o l := by
    obtain ⟨a, cap, rfl, hcap, hc⟩ := i1
    obtain ⟨b, o, rfl, hA⟩ := hc hn0
    exact ⟨b, o, cap, by rw [hn], hA⟩
  rw [hn] at hn0 lz
  have HN := Lib.hid hn
  clear i1 hn
  refine callsIn_of_wp_marks Tryz.func125 rfl trivial ?_ rfl
  simp only [Tryz.ntmps125, List.size_toArray, List.length_cons, List.length_nil, Nat.reduceAdd, Nat.reduceSub, Array.replicate_succ, Array.replicate_zero, List.push_toArray, List.append_toArray, List.nil_append, List.cons_append]
  obtain ⟨w0, hw0⟩ : ∃ w0, w.alloc (.cells [.bool mi, .slice (some ⟨bA, oA, none⟩) n cA].toArray 123) = w0 := ⟨_, rfl⟩
  have X0 : Blk w0 w.heap.size [.bool mi, .slice (some ⟨bA, oA, none⟩) n cA] 123 := by rw [← hw0]; exact Blk.new w _ _
  have hs0 : w0.heap.size = w.heap.size + 1 := by rw [← hw0]; simp
  have hq0 : Q w w0 := by rw [← hw0]; exact (Below.refl _ w).alloc (Nat.le_refl _) _
  have hF := Lib.fresh_isBuilder 250 5 w0
  have x0 := X0.cell 0
  have x1 := X0.cell 1
  simp only [List.getElem?_cons_zero, List.getElem?_cons_succ] at x0 x1
  have hn0b : ((n : Int) == 0) = false := by rw [beq_eq_false_iff_ne]; omega
  refine wpIn_wide.2 ?_
  cases mi with
  | true =>
    have HWB := Lib.hid (builder_WriteByte3 (w.heap.size + 1) (w.heap.size + 1) [] 45 (w0.alloc (.cells #[.pointer none, .slice none 0 0] 250)) (by rw [hs0] at hF; exact hF) (by decide) (by simp; omega))
    go_wp2_with fail
    refine HWB.out.mono ?_
    rintro e W1 ⟨rfl, hA1, hb1, hF1⟩
    have X1 : Blk W1 w.heap.size [.bool true, .slice (some ⟨bA, oA, none⟩) n cA] 123 := (X0.alloc _).keep hb1 (by omega)
    have hB1 : Lib.IsBuilder 250 5 (w.heap.size + 1) (w.heap.size + 1) (Lib.byteCells ([45] ++ [])) W1 := .inr hA1
    have hq1 : Q w W1 := Below.trans (hq0.alloc hq0.size _) (hb1.mono (by omega))
    have hsB : w.heap.size + 1 < W1.heap.size := by have := hF1.1; rw [World.size_alloc] at this; omega
    clear HWB hA1 hb1 hF1 x0 x1 hw0
    have x0 := X1.cell 0
    have x1 := X1.cell 1
    simp only [List.getElem?_cons_zero, List.getElem?_cons_succ] at x0 x1
    obtain ⟨Sb, hSb⟩ : ∃ Sb, W1.heap.size = Sb := ⟨_, rfl⟩
    rw [hSb] at hsB
    go_wp2_with fail
    refine (callsIn_wide.1 (backward_in Fence.wide 8 trivial rfl _ _ ⟨_, _, _, rfl⟩)).mono ?_
    rintro e w9 ⟨rfl, rfl⟩
    obtain ⟨W2, hW2⟩ : ∃ W2, W1.alloc (.cells #[.slice (some ⟨bA, oA, none⟩) n cA] 121) = W2 := ⟨_, rfl⟩
    have kc2 : KC W1 W2 := by rw [← hW2]; exact KC.alloc _ _
    have hq2 : Q w W2 := by rw [← hW2]; exact hq1.alloc hq1.size _
    have hs2 : W2.heap.size = Sb + 1 := by rw [← hW2]; simp [hSb]
    have X2 := X1.kc kc2
    have hB2 := isBuilder_kc hB1 kc2
    have bS2 : Boxed W2 Sb 121 (.slice (some ⟨bA, oA, none⟩) n cA) := by
      have := Boxed.new W1 121 (.slice (some ⟨bA, oA, none⟩) n cA)
      rw [hSb, hW2] at this; exact this
    have hbA := hA.1
    have hc2 := Lib.hid (fun j hj => qcell hq2 (hA.2 j hj))
    rw [hSb, hW2]
    clear hW2 kc2 X1 hB1 hSb hq1 x0 x1 hF
    go_wp2_with fail
    refine (wpIn_wide (n := 9)).1 ?_
    refine wpIn_rangeFunc_next (m := 9) (gf := 168) (lb := #[.pointer (some ⟨Sb, 0, none⟩)]) (by omega) rfl (enters_of Tryz.func168 (by kernel_rfl) rfl)
      (backward_nextN Sb bA oA cA (some ⟨bA, oA, none⟩) l (by have := HN.out; omega) W2 (fun _ => rfl) 8 (by omega) (by rw [HN.out]; exact bS2.cell) hc2.out) (by simp; omega) (fun _ => rfl)
      (fun pre W => Blk W w.heap.size [.bool true, .slice (some ⟨bA, oA, none⟩) n cA] 123 ∧ Boxed W Sb 121 (.slice (some ⟨bA, oA, none⟩) n cA) ∧
        Lib.IsBuilder 250 5 (w.heap.size + 1) (w.heap.size + 1) (Lib.byteCells ([45] ++ wtext l (n - pre.length))) W ∧ Q w W)
      (fun _ _ _ => False) (fun _ _ _ => trivial)
      (fun pre W W' h k hb => ⟨h.1.kc k, boxed_kc h.2.1 k, isBuilder_kc h.2.2.1 k, Below.trans h.2.2.2 (hb.mono hq2.size)⟩)
      (fun _ _ _ _ h _ _ => h)
      ⟨X2, bS2, by rw [show n - ([] : List (Plc l)).length = l.length by rw [HN.out]; rfl, wtext_end]; exact hB2, hq2⟩
      ?a1 ?assign ?body ?done ?stop
    case assign =>
      intro l x W K hK
      unfold pairN
      gi_wp2
      exact hK
    case stop =>
      rintro D c pre W _ _ h _
      exact h.elim
    case body =>
      rintro lp pre xx W ⟨hX, hS, hB, hQ⟩ ⟨hdn, hxi, hpl⟩
      obtain ⟨i, hi⟩ := xx
      simp only at hxi
      rw [HN.out] at hxi hpl
      have hil : i < n := by omega
      have HLI : Hid (n - (pre.length + 1) = i) := Lib.hid (by omega)
      rw [show n - pre.length = i + 1 by omega] at hB
      have hg : 0 ≤ nth l i ∧ nth l i < LB := dz.get (by decide) i
      have hwl := Lib.hid (wtext_len (l := l) dz (i + 1))
      have hwn : i + 1 < n → Hid (wtext l i = wtext l (i + 1) ++ (zerosS (9 - (decDigits (nth l i).toNat).length) ++ decDigits (nth l i).toNat)) := fun h => Lib.hid (wtext_next dz hlast.out (by rw [HN.out]; exact h))
      have hwf : i + 1 = n → Hid (wtext l i = decDigits (nth l i).toNat ∧ wtext l (i + 1) = []) := fun h => Lib.hid ⟨wtext_first (by rw [HN.out]; exact h), by rw [h, ← HN.out]; exact wtext_end l⟩
      have hLB : LB = 1000000000 := rfl
      rw [hLB] at hg
      rw [hs2]
      clear hdn hxi hpl hLB
      generalize nth l i = d at *
      obtain ⟨dn, rfl⟩ : ∃ dn : Nat, d = dn := ⟨d.toNat, by omega⟩
      rw [Int.toNat_natCast] at hwn hwf
      have hdl : (decDigits dn).length ≤ 9 := (decDigits_len_le dn 9 (by decide)).2 (by have := hg.2; omega)
      have HI := Lib.hid (fun W (hW : Q w W) => lib_Itoa (dn : Int) (by omega) (by omega) W (hE.q hW))
      simp only [← dec_eq_itoa] at HI
      generalize hds : decDigits dn = ds at *
      clear hds
      gi_wp2_with fail
      refine ⟨trivial, ?_⟩
      with_reducible refine CallsIn.mono (CallsIn.inRound lp (callsIn_wide.2 (HI.out W hQ))) ?_
      rintro e w3 ⟨rfl, hq3⟩
      have kc3 := KC.q hq3
      have X3 := hX.kc kc3
      have S3 := boxed_kc hS kc3
      have B3 := isBuilder_kc hB kc3
      have hQ3 := Q.trans hQ hq3
      have kf3 : KeepsFrom (Sb + 1) W w3 := (KeepsOthers.of_grownBy (grownBy_q hq3 none) (fun j o e => by cases e)).from _
      have kb3 : KeepB [Sb, bA] W w3 := KeepB.q hq3
      have xc := X3.cell 1
      simp only [List.getElem?_cons_zero, List.getElem?_cons_succ] at xc
      have hsz3 : w.heap.size + 1 ≤ w3.heap.size := by have := S3.lt; omega
      clear HI kc3 hX hS hB
      by_cases hlt : i + 1 < n
      · have hcmp : (i : Int) < (n : Int) - 1 := by omega
        obtain ⟨k0, hk0⟩ : ∃ k0, 9 - ds.length = k0 := ⟨_, rfl⟩
        have hk1 : (9 : Int) - (ds.length : Int) = (k0 : Int) := by omega
        have hW := hwn hlt
        rw [hk0] at hW
        have hk9 : k0 ≤ 9 := by omega
        have HR := Lib.hid (fun W => lib_Repeat0 k0 (by omega) W)
        clear hk0 hwn hwf
        gi_wp2_with fail
        refine ⟨trivial, ?_⟩
        with_reducible refine CallsIn.mono (CallsIn.inRound lp (callsIn_wide.2 (HR.out w3))) ?_
        rintro e w4 ⟨rfl, hq4⟩
        have kc4 := KC.q hq4
        have X4 := X3.kc kc4
        have S4 := boxed_kc S3 kc4
        have B4 := isBuilder_kc B3 kc4
        have hQ4 := Q.trans hQ3 hq4
        have kf4 : KeepsFrom (Sb + 1) W w4 := kf3.trans ((KeepsOthers.of_grownBy (grownBy_q hq4 none) (fun j o e => by cases e)).from _)
        have kb4 : KeepB [Sb, bA] W w4 := kb3.trans (KeepB.q hq4)
        have hsz4 : w.heap.size + 1 ≤ w4.heap.size := by have := S4.lt; omega
        have HS1 := Lib.hid (builder_WriteString3 (w.heap.size + 1) (w.heap.size + 1) _ ⟨(zerosS k0).toArray⟩ w4 B4 (by rw [Lib.byteCells_length]; have h1 := hwl.out; have := HN.out; have h3 : (⟨(zerosS k0).toArray⟩ : ByteArray).size = k0 := zerosS_len k0; simp only [List.length_append, List.length_cons, List.length_nil] at h1 ⊢; omega) hsz4)
        clear xc HR X3 S3 B3 kf3 kb3 hQ3 hq4 kc4 hk1
        gi_wp2_with fail
        refine ⟨trivial, ?_⟩
        with_reducible refine CallsIn.mono (CallsIn.inRound lp (callsIn_wide.2 HS1.out)) ?_
        rintro e w5 ⟨rfl, hA5, hb5, hF5⟩
        obtain ⟨cs4, hcs4⟩ := isBuilder_cells B4
        have X5 := X4.keep hb5 (by omega)
        have S5 := hF5.boxed S4 (by omega) (by decide)
        have hQ5 : Q w w5 := Below.trans hQ4 (hb5.mono (by omega))
        have kf5 : KeepsFrom (Sb + 1) W w5 := kf4.trans (hF5.keeps hcs4)
        have kb5 : KeepB [Sb, bA] W w5 := kb4.trans (keepB_two S4 S5 hb5 (by omega))
        have B5 : Lib.IsBuilder 250 5 (w.heap.size + 1) (w.heap.size + 1) (Lib.byteCells ([45] ++ wtext l (i + 1) ++ zerosS k0)) w5 := .inr (by rw [byteCells_str]; exact hA5)
        have hsz5 : w.heap.size + 1 ≤ w5.heap.size := by have := S5.lt; omega
        have HS2 := Lib.hid (builder_WriteString3 (w.heap.size + 1) (w.heap.size + 1) _ ⟨ds.toArray⟩ w5 B5 (by rw [Lib.byteCells_length]; have h1 := hwl.out; have := HN.out; have h3 : (⟨ds.toArray⟩ : ByteArray).size = ds.length := rfl; have h4 := zerosS_len k0; simp only [List.length_append, List.length_cons, List.length_nil] at h1 ⊢; omega) hsz5)
        clear HS1 X4 S4 B4 kf4 kb4 hQ4 hA5 hb5 hF5 hcs4
        gi_wp2_with fail
        refine ⟨trivial, ?_⟩
        with_reducible refine CallsIn.mono (CallsIn.inRound lp (callsIn_wide.2 HS2.out)) ?_
        rintro e w6 ⟨rfl, hA6, hb6, hF6⟩
        obtain ⟨cs5, hcs5⟩ := isBuilder_cells B5
        have X6 := X5.keep hb6 (by omega)
        have S6 := hF6.boxed S5 (by omega) (by decide)
        have hQ6 : Q w w6 := Below.trans hQ5 (hb6.mono (by omega))
        have kf6 : KeepsFrom (Sb + 1) W w6 := kf5.trans (hF6.keeps hcs5)
        have kb6 : KeepB [Sb, bA] W w6 := kb5.trans (keepB_two S5 S6 hb6 (by omega))
        have HB6 := Lib.hid hA6
        clear HS2 X5 S5 B5 kf5 kb5 hQ5 hA6 hb6 hF6 hcs5
        gi_wp2
        refine ⟨kf6, kb6, X6, S6, .inr ?_, hQ6⟩
        rw [List.length_append, List.length_singleton, HLI.out, hW.out]
        have h := HB6.out
        rw [← byteCells_str] at h
        simpa [List.append_assoc] using h
      · have hcmp : (n : Int) - 1 ≤ (i : Int) := by omega
        have hW := hwf (by omega)
        rw [hW.out.2] at B3
        have HS2 := Lib.hid (builder_WriteString3 (w.heap.size + 1) (w.heap.size + 1) _ ⟨ds.toArray⟩ w3 B3 (by rw [Lib.byteCells_length]; have h3 : (⟨ds.toArray⟩ : ByteArray).size = ds.length := rfl; simp only [List.length_append, List.length_cons, List.length_nil]; omega) hsz3)
        clear hwn hwf
        gi_wp2_with fail
        refine ⟨trivial, ?_⟩
        with_reducible refine CallsIn.mono (CallsIn.inRound lp (callsIn_wide.2 HS2.out)) ?_
        rintro e w6 ⟨rfl, hA6, hb6, hF6⟩
        obtain ⟨cs5, hcs5⟩ := isBuilder_cells B3
        have X6 := X3.keep hb6 (by omega)
        have S6 := hF6.boxed S3 (by omega) (by decide)
        have hQ6 : Q w w6 := Below.trans hQ3 (hb6.mono (by omega))
        have kf6 : KeepsFrom (Sb + 1) W w6 := kf3.trans (hF6.keeps hcs5)
        have kb6 : KeepB [Sb, bA] W w6 := kb3.trans (keepB_two S3 S6 hb6 (by omega))
        have HB6 := Lib.hid hA6
        clear HS2 X3 S3 B3 kf3 kb3 hQ3 hA6 hb6 hF6 hcs5 xc
        gi_wp2
        refine ⟨kf6, kb6, X6, S6, .inr ?_, hQ6⟩
        rw [List.length_append, List.length_singleton, HLI.out, hW.out.1]
        have h := HB6.out
        rw [← byteCells_str] at h
        simpa [List.append_assoc] using h
    case done =>
      rintro D ys W hD hys ⟨hX, hS, hB, hQ⟩ hK
      rw [hys.len, HN.out, Nat.sub_self, hdone.out] at hB
      have hsz : w.heap.size + 1 ≤ W.heap.size := by have := hS.lt; omega
      have HSt := Lib.hid (Tryz.Builder_String_any_k (w.heap.size + 1) (w.heap.size + 1) _ W (Lib.IsBuilderF.of hB) hsz)
      go_wp2_with fail
      refine HSt.out.mono ?_
      rintro e w3 ⟨rfl, -, hb3, hO3⟩
      have hK3 : w3.heap[D]? = some (.deferred (some [])) := hO3 D _ hK (fun e => by have := Option.some.inj e; omega) (fun cs fr e => by cases e)
      have hQ3 : Q w w3 := Below.trans hQ (hb3.mono (by omega))
      clear HSt
      go_wp2
      refine ⟨by simp, .inl ⟨_, _, rfl, run_takeDeferred hK3, ?_⟩⟩
      exact ⟨_, results_tmp rfl _ _ _, rfl, Below.trans hQ3 (below_put (by omega) hK3 _)⟩
  | false =>
    obtain ⟨W1, hW1⟩ : ∃ W1, w0.alloc (.cells #[.pointer none, .slice none 0 0] 250) = W1 := ⟨_, rfl⟩
    have X1 : Blk W1 w.heap.size [.bool false, .slice (some ⟨bA, oA, none⟩) n cA] 123 := by rw [← hW1]; exact X0.alloc _
    have hB1 : Lib.IsBuilder 250 5 (w.heap.size + 1) (w.heap.size + 1) (Lib.byteCells ([] ++ [])) W1 := by rw [← hW1, ← hs0]; exact hF
    have hq1 : Q w W1 := by rw [← hW1]; exact hq0.alloc hq0.size _
    have hsB : w.heap.size + 1 < W1.heap.size := by rw [← hW1]; simp; omega
    have y0 := X1.cell 0
    have y1 := X1.cell 1
    simp only [List.getElem?_cons_zero, List.getElem?_cons_succ] at y0 y1
    go_wp2_with fail
    clear x0 x1 y0 y1 hw0
    obtain ⟨Sb, hSb⟩ : ∃ Sb, W1.heap.size = Sb := ⟨_, rfl⟩
    rw [hSb] at hsB
    clear hW1
    refine (callsIn_wide.1 (backward_in Fence.wide 8 trivial rfl _ _ ⟨_, _, _, rfl⟩)).mono ?_
    rintro e w9 ⟨rfl, rfl⟩
    obtain ⟨W2, hW2⟩ : ∃ W2, W1.alloc (.cells #[.slice (some ⟨bA, oA, none⟩) n cA] 121) = W2 := ⟨_, rfl⟩
    have kc2 : KC W1 W2 := by rw [← hW2]; exact KC.alloc _ _
    have hq2 : Q w W2 := by rw [← hW2]; exact hq1.alloc hq1.size _
    have hs2 : W2.heap.size = Sb + 1 := by rw [← hW2]; simp [hSb]
    have X2 := X1.kc kc2
    have hB2 := isBuilder_kc hB1 kc2
    have bS2 : Boxed W2 Sb 121 (.slice (some ⟨bA, oA, none⟩) n cA) := by
      have := Boxed.new W1 121 (.slice (some ⟨bA, oA, none⟩) n cA)
      rw [hSb, hW2] at this; exact this
    have hbA := hA.1
    have hc2 := Lib.hid (fun j hj => qcell hq2 (hA.2 j hj))
    rw [hSb, hW2]
    clear hW2 kc2 X1 hB1 hSb hq1 hF
    go_wp2_with fail
    refine (wpIn_wide (n := 9)).1 ?_
    refine wpIn_rangeFunc_next (m := 9) (gf := 168) (lb := #[.pointer (some ⟨Sb, 0, none⟩)]) (by omega) rfl (enters_of Tryz.func168 (by kernel_rfl) rfl)
      (backward_nextN Sb bA oA cA (some ⟨bA, oA, none⟩) l (by have := HN.out; omega) W2 (fun _ => rfl) 8 (by omega) (by rw [HN.out]; exact bS2.cell) hc2.out) (by simp; omega) (fun _ => rfl)
      (fun pre W => Blk W w.heap.size [.bool false, .slice (some ⟨bA, oA, none⟩) n cA] 123 ∧ Boxed W Sb 121 (.slice (some ⟨bA, oA, none⟩) n cA) ∧
        Lib.IsBuilder 250 5 (w.heap.size + 1) (w.heap.size + 1) (Lib.byteCells (([] : Str) ++ wtext l (n - pre.length))) W ∧ Q w W)
      (fun _ _ _ => False) (fun _ _ _ => trivial)
      (fun pre W W' h k hb => ⟨h.1.kc k, boxed_kc h.2.1 k, isBuilder_kc h.2.2.1 k, Below.trans h.2.2.2 (hb.mono hq2.size)⟩)
      (fun _ _ _ _ h _ _ => h)
      ⟨X2, bS2, by rw [show n - ([] : List (Plc l)).length = l.length by rw [HN.out]; rfl, wtext_end]; exact hB2, hq2⟩
      ?a12 ?assign2 ?body2 ?done2 ?stop2
    case assign2 =>
      intro l x W K hK
      unfold pairN
      gi_wp2
      exact hK
    case stop2 =>
      rintro D c pre W _ _ h _
      exact h.elim
    case body2 =>
      rintro lp pre xx W ⟨hX, hS, hB, hQ⟩ ⟨hdn, hxi, hpl⟩
      obtain ⟨i, hi⟩ := xx
      simp only at hxi
      rw [HN.out] at hxi hpl
      have hil : i < n := by omega
      have HLI : Hid (n - (pre.length + 1) = i) := Lib.hid (by omega)
      rw [show n - pre.length = i + 1 by omega] at hB
      have hg : 0 ≤ nth l i ∧ nth l i < LB := dz.get (by decide) i
      have hwl := Lib.hid (wtext_len (l := l) dz (i + 1))
      have hwn : i + 1 < n → Hid (wtext l i = wtext l (i + 1) ++ (zerosS (9 - (decDigits (nth l i).toNat).length) ++ decDigits (nth l i).toNat)) := fun h => Lib.hid (wtext_next dz hlast.out (by rw [HN.out]; exact h))
      have hwf : i + 1 = n → Hid (wtext l i = decDigits (nth l i).toNat ∧ wtext l (i + 1) = []) := fun h => Lib.hid ⟨wtext_first (by rw [HN.out]; exact h), by rw [h, ← HN.out]; exact wtext_end l⟩
      have hLB : LB = 1000000000 := rfl
      rw [hLB] at hg
      rw [hs2]
      clear hdn hxi hpl hLB
      generalize nth l i = d at *
      obtain ⟨dn, rfl⟩ : ∃ dn : Nat, d = dn := ⟨d.toNat, by omega⟩
      rw [Int.toNat_natCast] at hwn hwf
      have hdl : (decDigits dn).length ≤ 9 := (decDigits_len_le dn 9 (by decide)).2 (by have := hg.2; omega)
      have HI := Lib.hid (fun W (hW : Q w W) => lib_Itoa (dn : Int) (by omega) (by omega) W (hE.q hW))
      simp only [← dec_eq_itoa] at HI
      generalize hds : decDigits dn = ds at *
      clear hds
      gi_wp2_with fail
      refine ⟨trivial, ?_⟩
      with_reducible refine CallsIn.mono (CallsIn.inRound lp (callsIn_wide.2 (HI.out W hQ))) ?_
      rintro e w3 ⟨rfl, hq3⟩
      have kc3 := KC.q hq3
      have X3 := hX.kc kc3
      have S3 := boxed_kc hS kc3
      have B3 := isBuilder_kc hB kc3
      have hQ3 := Q.trans hQ hq3
      have kf3 : KeepsFrom (Sb + 1) W w3 := (KeepsOthers.of_grownBy (grownBy_q hq3 none) (fun j o e => by cases e)).from _
      have kb3 : KeepB [Sb, bA] W w3 := KeepB.q hq3
      have xc := X3.cell 1
      simp only [List.getElem?_cons_zero, List.getElem?_cons_succ] at xc
      have hsz3 : w.heap.size + 1 ≤ w3.heap.size := by have := S3.lt; omega
      clear HI kc3 hX hS hB
      by_cases hlt : i + 1 < n
      · have hcmp : (i : Int) < (n : Int) - 1 := by omega
        obtain ⟨k0, hk0⟩ : ∃ k0, 9 - ds.length = k0 := ⟨_, rfl⟩
        have hk1 : (9 : Int) - (ds.length : Int) = (k0 : Int) := by omega
        have hW := hwn hlt
        rw [hk0] at hW
        have hk9 : k0 ≤ 9 := by omega
        have HR := Lib.hid (fun W => lib_Repeat0 k0 (by omega) W)
        clear hk0 hwn hwf
        gi_wp2_with fail
        refine ⟨trivial, ?_⟩
        with_reducible refine CallsIn.mono (CallsIn.inRound lp (callsIn_wide.2 (HR.out w3))) ?_
        rintro e w4 ⟨rfl, hq4⟩
        have kc4 := KC.q hq4
        have X4 := X3.kc kc4
        have S4 := boxed_kc S3 kc4
        have B4 := isBuilder_kc B3 kc4
        have hQ4 := Q.trans hQ3 hq4
        have kf4 : KeepsFrom (Sb + 1) W w4 := kf3.trans ((KeepsOthers.of_grownBy (grownBy_q hq4 none) (fun j o e => by cases e)).from _)
        have kb4 : KeepB [Sb, bA] W w4 := kb3.trans (KeepB.q hq4)
        have hsz4 : w.heap.size + 1 ≤ w4.heap.size := by have := S4.lt; omega
        have HS1 := Lib.hid (builder_WriteString3 (w.heap.size + 1) (w.heap.size + 1) _ ⟨(zerosS k0).toArray⟩ w4 B4 (by rw [Lib.byteCells_length]; have h1 := hwl.out; have := HN.out; have h3 : (⟨(zerosS k0).toArray⟩ : ByteArray).size = k0 := zerosS_len k0; simp only [List.length_append, List.length_nil] at h1 ⊢; omega) hsz4)
        clear xc HR X3 S3 B3 kf3 kb3 hQ3 hq4 kc4 hk1
        gi_wp2_with fail
        refine ⟨trivial, ?_⟩
        with_reducible refine CallsIn.mono (CallsIn.inRound lp (callsIn_wide.2 HS1.out)) ?_
        rintro e w5 ⟨rfl, hA5, hb5, hF5⟩
        obtain ⟨cs4, hcs4⟩ := isBuilder_cells B4
        have X5 := X4.keep hb5 (by omega)
        have S5 := hF5.boxed S4 (by omega) (by decide)
        have hQ5 : Q w w5 := Below.trans hQ4 (hb5.mono (by omega))
        have kf5 : KeepsFrom (Sb + 1) W w5 := kf4.trans (hF5.keeps hcs4)
        have kb5 : KeepB [Sb, bA] W w5 := kb4.trans (keepB_two S4 S5 hb5 (by omega))
        have B5 : Lib.IsBuilder 250 5 (w.heap.size + 1) (w.heap.size + 1) (Lib.byteCells (([] : Str) ++ wtext l (i + 1) ++ zerosS k0)) w5 := .inr (by rw [byteCells_str]; exact hA5)
        have hsz5 : w.heap.size + 1 ≤ w5.heap.size := by have := S5.lt; omega
        have HS2 := Lib.hid (builder_WriteString3 (w.heap.size + 1) (w.heap.size + 1) _ ⟨ds.toArray⟩ w5 B5 (by rw [Lib.byteCells_length]; have h1 := hwl.out; have := HN.out; have h3 : (⟨ds.toArray⟩ : ByteArray).size = ds.length := rfl; have h4 := zerosS_len k0; simp only [List.length_append, List.length_nil] at h1 ⊢; omega) hsz5)
        clear HS1 X4 S4 B4 kf4 kb4 hQ4 hA5 hb5 hF5 hcs4
        gi_wp2_with fail
        refine ⟨trivial, ?_⟩
        with_reducible refine CallsIn.mono (CallsIn.inRound lp (callsIn_wide.2 HS2.out)) ?_
        rintro e w6 ⟨rfl, hA6, hb6, hF6⟩
        obtain ⟨cs5, hcs5⟩ := isBuilder_cells B5
        have X6 := X5.keep hb6 (by omega)
        have S6 := hF6.boxed S5 (by omega) (by decide)
        have hQ6 : Q w w6 := Below.trans hQ5 (hb6.mono (by omega))
        have kf6 : KeepsFrom (Sb + 1) W w6 := kf5.trans (hF6.keeps hcs5)
        have kb6 : KeepB [Sb, bA] W w6 := kb5.trans (keepB_two S5 S6 hb6 (by omega))
        have HB6 := Lib.hid hA6
        clear HS2 X5 S5 B5 kf5 kb5 hQ5 hA6 hb6 hF6 hcs5
        gi_wp2
        refine ⟨kf6, kb6, X6, S6, .inr ?_, hQ6⟩
        rw [List.length_append, List.length_singleton, HLI.out, hW.out]
        have h := HB6.out
        rw [← byteCells_str] at h
        simpa [List.append_assoc] using h
      · have hcmp : (n : Int) - 1 ≤ (i : Int) := by omega
        have hW := hwf (by omega)
        rw [hW.out.2] at B3
        have HS2 := Lib.hid (builder_WriteString3 (w.heap.size + 1) (w.heap.size + 1) _ ⟨ds.toArray⟩ w3 B3 (by rw [Lib.byteCells_length]; have h3 : (⟨ds.toArray⟩ : ByteArray).size = ds.length := rfl; simp only [List.length_append, List.length_nil]; omega) hsz3)
        clear hwn hwf
        gi_wp2_with fail
        refine ⟨trivial, ?_⟩
        with_reducible refine CallsIn.mono (CallsIn.inRound lp (callsIn_wide.2 HS2.out)) ?_
        rintro e w6 ⟨rfl, hA6, hb6, hF6⟩
        obtain ⟨cs5, hcs5⟩ := isBuilder_cells B3
        have X6 := X3.keep hb6 (by omega)
        have S6 := hF6.boxed S3 (by omega) (by decide)
        have hQ6 : Q w w6 := Below.trans hQ3 (hb6.mono (by omega))
        have kf6 : KeepsFrom (Sb + 1) W w6 := kf3.trans (hF6.keeps hcs5)
        have kb6 : KeepB [Sb, bA] W w6 := kb3.trans (keepB_two S3 S6 hb6 (by omega))
        have HB6 := Lib.hid hA6
        clear HS2 X3 S3 B3 kf3 kb3 hQ3 hA6 hb6 hF6 hcs5 xc
        gi_wp2
        refine ⟨kf6, kb6, X6, S6, .inr ?_, hQ6⟩
        rw [List.length_append, List.length_singleton, HLI.out, hW.out.1]
        have h := HB6.out
        rw [← byteCells_str] at h
        simpa [List.append_assoc] using h
    case done2 =>
      rintro D ys W hD hys ⟨hX, hS, hB, hQ⟩ hK
      rw [hys.len, HN.out, Nat.sub_self, hdone.out] at hB
      have hsz : w.heap.size + 1 ≤ W.heap.size := by have := hS.lt; omega
      have HSt := Lib.hid (Tryz.Builder_String_any_k (w.heap.size + 1) (w.heap.size + 1) _ W (Lib.IsBuilderF.of hB) hsz)
      go_wp2_with fail
      refine HSt.out.mono ?_
      rintro e w3 ⟨rfl, -, hb3, hO3⟩
      have hK3 : w3.heap[D]? = some (.deferred (some [])) := hO3 D _ hK (fun e => by have := Option.some.inj e; omega) (fun cs fr e => by cases e)
      have hQ3 : Q w w3 := Below.trans hQ (hb3.mono (by omega))
      clear HSt
      go_wp2
      refine ⟨by simp, .inl ⟨_, _, rfl, run_takeDeferred hK3, ?_⟩⟩
      exact ⟨_, results_tmp rfl _ _ _, rfl, Below.trans hQ3 (below_put (by omega) hK3 _)⟩
set_option maxHeartbeats 400000 in
theorem write_zero (mi : Bool) (v1 : Value) (w : World) (i1 : IntSl w v1 []) :
    Calls Tryz.prog 125 #[.agg #[.bool mi, v1]] w fun e w' => e = .returned (.string ⟨#[48]⟩) ∧ Q w w' := by
  obtain ⟨a, c, rfl, -, -⟩ := i1
  obtain ⟨w0, hw0⟩ : ∃ w0, w.alloc (.cells [.bool mi, .slice a ([] : List Int).length c].toArray 123) = w0 := ⟨_, rfl⟩
  have X0 : Blk w0 w.heap.size [.bool mi, .slice a ([] : List Int).length c] 123 := by rw [← hw0]; exact Blk.new w _ _
  have hq0 : Q w w0 := by rw [← hw0]; exact (Below.refl _ w).alloc (Nat.le_refl _) _
  have x1 := X0.cell 1
  simp only [List.getElem?_cons_zero, List.getElem?_cons_succ, List.length_nil] at x1 hw0
  go_enter Tryz.func125, Tryz.ntmps125
  go_wp2
  go_ret
  exact ⟨rfl, hq0⟩
theorem integer_write (mi : Bool) (z : Int) (v1 : Value) (w : World) (hE : Env w) (h1 : NumOf w z v1) :
    Calls Tryz.prog 125 #[.agg #[.bool mi, v1]] w fun e w' => e = .returned (.string ⟨(Lib.itoa (sgn mi z)).toArray⟩) ∧ Q w w' := by
  obtain ⟨hz, lz, i1⟩ := h1
  by_cases h0 : z = 0
  · subst h0
    rw [limbs_zero (Int.le_refl _)] at i1
    have e : Lib.itoa (sgn mi 0) = [48] := by
      have : sgn mi 0 = 0 := by cases mi <;> rfl
      rw [this, itoa_zero]
    rw [e]
    exact write_zero mi v1 w i1
  · have h := callsIn_wide.1 (write_in z (by omega) mi lz v1 w hE i1)
    have e : (if mi then [45] else []) ++ decDigits z.toNat = Lib.itoa (sgn mi z) := by
      cases mi
      · show decDigits z.toNat = Lib.itoa z
        rw [itoa_nonneg hz]
      · show 45 :: decDigits z.toNat = Lib.itoa (-z)
        rw [itoa_neg (by omega)]
        congr 2; omega
    rw [e] at h
    exact h
end Go.Proofs.YtohonlboaddppaaGreatDoor
