/-
  Walks of package cutlist: text, Print.
-/
import Derived.Test.YtohlpeicpoaanaaGreatDoorCU
import Derived.Test.YtohlpeicpoaanaaGreatDoorCSup
import Derived.Test.YtohlpeicpoaanaaGreatDoorShelfE
import Derived.Maps.AppendAt
namespace Go.Proofs.YtohlpeicpoaanaaGreatDoor
open Go.RowKit Kp Go.Sort

theorem far_cells {w w' : World} {b g : Nat} {cs : Array Value} {t : TypeId} {f : Nat × Nat} (h : Far w b w') (hb : w.heap[g]? = some (.cells cs t f)) (hne : g ≠ b) (ht : t ≠ 5) : w'.heap[g]? = some (.cells cs t f) := h.2 _ _ hne (fun cs fr e => ht (by cases e; rfl)) hb
/-- The cells of a piece. -/
theorem CtSl.cellsAt {w : World} {a : Option Addr} {n cap : Nat} {l : List Ct} (h : CtSl w (.slice a n cap) l) {i : Nat} (hi : i < l.length) :
    ∃ b o a2 c2, a = some ⟨b, o, none⟩ ∧ b < w.heap.size ∧ NumSl w (.slice a2 (ctAt l i).ms.length c2) (ctAt l i).ms ∧ w.cell? ⟨b, o + i * 4, none⟩ = some (.int .i64 (ctAt l i).w) ∧ w.cell? ⟨b, o + i * 4 + 1, none⟩ = some (.int .i64 (ctAt l i).d) ∧ w.cell? ⟨b, o + i * 4 + 2, none⟩ = some (.int .i64 (ctAt l i).n) ∧ w.cell? ⟨b, o + i * 4 + 3, none⟩ = some (.slice a2 (ctAt l i).ms.length c2) := by
  obtain ⟨a', cap', he, hc⟩ := h
  injection he with h1 h2 h3
  subst h1 h2 h3
  obtain ⟨b, o, u, ha, hb, hn, hcell⟩ := hc i hi
  obtain ⟨a2, c2, rfl, -⟩ := id hn
  exact ⟨b, o, a2, c2, ha, hb, hn, hcell 0 _ rfl, hcell 1 _ rfl, hcell 2 _ rfl, hcell 3 _ rfl⟩
theorem num_cells {W : World} {g gc n B : Nat} {L : List Int} (hL : L.length = n) (h : W.ownsRow B 3 1 (.slice (some ⟨g, 0, none⟩) n gc) n (numC L)) : ∀ j, j < n → W.cell? ⟨g, j, none⟩ = some (.int .i64 (atI L j)) := by
  subst hL
  have h2 := NumSl.cell (RowSl.of_row (l := L) (fun _ => rfl) (by rw [rowOf_num]; exact h))
  intro j hj
  obtain ⟨b, o, he, hb, hc⟩ := h2.2 j hj
  injection he with he
  injection he with e1 e2
  subst e1 e2
  rwa [Nat.zero_add] at hc

set_option maxRecDepth 100000 in
set_option maxHeartbeats 4000000 in
theorem cut_text (l : List Ct) (hln : l.length ≤ 512) (hok : ∀ x ∈ l, PcOk x ∧ x.ms.length ≤ 512) (v : Value) (w : World) (hE : Env w) (hv : CtSl w v l) :
    Calls Tryz.prog 38 #[v] w fun e w' => e = .returned (.string ⟨(textF l).toArray⟩) ∧ Q w w' := by
  have HV : Hid (∀ W, Q w W → CtSl W v l) := Lib.hid (fun W hq => hv.keep hq)
  have HO : Hid (∀ k, k < l.length → PcOk (ctAt l k) ∧ (ctAt l k).ms.length ≤ 512) := Lib.hid (fun k hk => hok _ (by rw [ctAt_get hk]; exact List.getElem_mem hk))
  have HT : Hid (∀ k, k < l.length → textF (l.take (k + 1)) = textF (l.take k) ++ (joinF (numF (ctAt l k)) ++ [10])) := Lib.hid (fun k hk => textF_take hk)
  have HB : Hid (∀ k, (textF (l.take k)).length ≤ 2200000) := Lib.hid (fun k => by
    have h := textF_len (l.take k) (fun x hx => hok x (List.mem_of_mem_take hx))
    rw [List.length_take] at h
    omega)
  have HL := Lib.hid (List.take_length (l := l))
  obtain ⟨i0, ci, cz0, cz1, cz2⟩ := info_parts infoInt
  obtain ⟨a, cap, rfl, -⟩ := hv
  have hF := Lib.fresh_isBuilder 98 5 w
  clear hok
  go_enter Tryz.func38, Tryz.ntmps38
  generalize hB0 : w.heap.size = B0 at hF
  have hwB : w.heap.size ≤ B0 := by omega
  go_wp2_with fail
  go_loopw [10] (fun i wr => ∃ k : Nat, k ≤ l.length ∧ i = .int .i64 k ∧ Q w wr ∧ Lib.IsBuilder 98 5 B0 B0 (Lib.byteCells (textF (l.take k))) wr) (fun i _ => l.length - (intOf i).toNat)
  case atStart => exact ⟨0, by omega, rfl, bt, hF⟩
  case round =>
    clear hF
    obtain ⟨k, hk, rfl, hQ, hW⟩ := hrel
    have hBl : B0 < wr.heap.size := hW.elim (fun x => x.lt) (fun x => x.lt)
    by_cases hlt : k < l.length
    · obtain ⟨b, o, a2, c2, rfl, hb, hn, e0, e1, e2, e3⟩ := (HV.out _ hQ).cellsAt hlt
      obtain ⟨hpk, hm5⟩ := HO.out k hlt
      have HTk := Lib.hid (HT.out k hlt)
      have hB := HB.out k
      have hkz : (k : Int) < l.length := by omega
      have hk0 : (0 : Int) ≤ k := by omega
      clear HV HO HT HB HL
      generalize ctAt l k = x at *
      have hxm0 := hpk.some
      obtain ⟨b2, o2, he2, hb2, -⟩ := hn.cell.2 0 hxm0
      subst he2
      have HN2 : Hid (∀ j, j < x.ms.length → wr.cell? ⟨b2, o2 + j, none⟩ = some (.int .i64 (atI x.ms j))) := Lib.hid (fun j hj => by
        obtain ⟨b3, o3, he, -, hc⟩ := hn.cell.2 j hj
        injection he with he
        injection he with q1 q2
        subst q1 q2
        exact hc)
      have HNu : Hid (∀ j, j < 3 + x.ms.length → 0 ≤ atI (numF x) j ∧ atI (numF x) j < 10000000) := Lib.hid (fun j hj => by
        have hl : j < (numF x).length := by unfold numF; simp only [List.length_cons]; omega
        rw [atI_get hl]
        exact hpk.nums _ (List.getElem_mem hl))
      have HTK : Hid (∀ j, j < 3 + x.ms.length → (numF x).take (j + 1) = (numF x).take j ++ [atI (numF x) j]) := Lib.hid (fun j hj => take_at (by unfold numF; simp only [List.length_cons]; omega))
      have HJL : Hid (∀ j, (joinF ((numF x).take j)).length ≤ 4200) := Lib.hid (fun j => by
        have h := joinF_len ((numF x).take j) (fun z hz => hpk.nums z (List.mem_of_mem_take hz))
        rw [List.length_take] at h
        have h3 : (numF x).length = x.ms.length + 3 := rfl
        omega)
      have HLn : Hid ((numF x).length = 3 + x.ms.length) := Lib.hid (by show x.ms.length + 3 = _; omega)
      have HNC : Hid (numC (numF x) = [.int .i64 x.w, .int .i64 x.d, .int .i64 x.n] ++ numC x.ms) := Lib.hid rfl
      clear hn hpk
      obtain ⟨x1, x2, x3, xm⟩ := x
      simp only at e0 e1 e2 e3 hm5 hxm0 HN2 HNu HTK HJL HLn HNC HTk
      generalize numF ⟨x1, x2, x3, xm⟩ = L at *
      have hxm5 : (xm.length : Int) ≤ 512 := by omega
      have hwr := hQ.size
      have hq2 : Q wr ((wr.alloc (.cells #[.int .i64 x1, .int .i64 x2, .int .i64 x3, .slice (some ⟨b2, o2, none⟩) xm.length c2] 42)).alloc (.cells #[.int .i64 x1, .int .i64 x2, .int .i64 x3] 3)) := bt
      have hs2 : (((wr.alloc (.cells #[.int .i64 x1, .int .i64 x2, .int .i64 x3, .slice (some ⟨b2, o2, none⟩) xm.length c2] 42)).alloc (.cells #[.int .i64 x1, .int .i64 x2, .int .i64 x3] 3))).heap.size = wr.heap.size + 2 := by simp
      have B3 : Blk ((wr.alloc (.cells #[.int .i64 x1, .int .i64 x2, .int .i64 x3, .slice (some ⟨b2, o2, none⟩) xm.length c2] 42)).alloc (.cells #[.int .i64 x1, .int .i64 x2, .int .i64 x3] 3)) (wr.heap.size + 1) [.int .i64 x1, .int .i64 x2, .int .i64 x3] 3 := Blk.new1 wr _ _ _
      have how : (((wr.alloc (.cells #[.int .i64 x1, .int .i64 x2, .int .i64 x3, .slice (some ⟨b2, o2, none⟩) xm.length c2] 42)).alloc (.cells #[.int .i64 x1, .int .i64 x2, .int .i64 x3] 3))).ownsRow wr.heap.size 3 1 (.slice (some ⟨wr.heap.size + 1, 0, none⟩) 3 3) 3 [.int .i64 x1, .int .i64 x2, .int .i64 x3] := ⟨rfl, .inr ⟨wr.heap.size + 1, 3, _, rfl, by omega, B3, Nat.le_refl _, by unfold maxLen; omega, rfl, rfl⟩⟩
      go_wp2_with (at_builtin; refine wpList_append_own_at _ rfl (.tmp 20) (.tmp 22) 40 rfl wr.heap.size 3 i0 _ 1 8 Tryz.underlying40 ci cz0 cz1 cz2 rfl (by decide) _ 3 [.int .i64 x1, .int .i64 x2, .int .i64 x3] rfl how ⟨b2, o2, none⟩ xm.length c2 (numC xm) rfl ?qe1 ?qe2 ?qe3 ?qe4 ?qe5 ?qe6 ?_)
      case qe1 => unfold numC; rw [List.length_map, Nat.mul_one]
      case qe2 =>
        intro j u hj
        rw [Addr.add_lit]
        have hjl : j < xm.length := by have := (List.getElem?_eq_some_iff.1 hj).1; unfold numC at this; rwa [List.length_map] at this
        refine (qcell hq2 (HN2.out j hjl)).trans ?_
        rw [← hj]
        unfold numC
        rw [List.getElem?_map, List.getElem?_eq_getElem hjl, atI_get hjl]; rfl
      case qe3 =>
        intro z hz
        obtain ⟨y, -, rfl⟩ := List.mem_map.1 hz
        rfl
      case qe4 => unfold maxLen; omega
      case qe5 => omega
      case qe6 => rw [hs2]; omega
      intro o' w6 hown6 hgrow6 _ hloc
      have hlt6 := fun k hk => (how.lt k hk).1
      have hq6 : Q wr w6 := Below.trans hq2 ((Below.refl _ _).grown hgrow6 (by rw [hs2]; omega) hlt6)
      have hW6 := isBuilder_keep hW hq6
      have hQ6 := Q.trans hQ hq6
      replace hown6 : w6.ownsRow wr.heap.size 3 1 o' (3 + xm.length) (numC L) := by rw [HNC.out]; exact hown6
      rcases id hown6.2 with ⟨-, h0⟩ | ⟨g, gc, cur, rfl, hg, hblk, hle, hmx, hsz, htk⟩
      · omega
      have HG : Hid (∀ W : World, W.heap[g]? = some (.cells cur 3 (0, 0)) → ∀ j, j < 3 + xm.length → W.cell? ⟨g, j, none⟩ = some (.int .i64 (atI L j))) := Lib.hid (fun W hW => num_cells (B := wr.heap.size) (gc := gc) HLn.out ⟨hown6.1, .inr ⟨g, gc, cur, rfl, hg, hW, hle, hmx, hsz, htk⟩⟩)
      have hgB : g ≠ B0 := by omega
      have hw0 := hQ6.size
      generalize textF (l.take k) = T0 at *
      clear hown6 hgrow6 how B3 hlt6 hq6 hq2 hs2 hloc hle hmx hsz htk hg HN2 HNC e0 e1 e2 e3 hb hb2 hW hQ hwr
      generalize hn3 : 3 + xm.length = n at *
      have hn5 : n ≤ 600 := by omega
      have hnz : (n : Int) ≤ 600 := by omega
      go_wp2_with fail
      go_loopw [25] (fun i wl => ∃ m : Nat, m ≤ n ∧ i = .int .i64 m ∧ Lib.IsBuilder 98 5 B0 B0 (Lib.byteCells (T0 ++ joinF (L.take m))) wl ∧ wl.heap[g]? = some (.cells cur 3 (0, 0)) ∧ Q w wl) (fun i _ => n - (intOf i).toNat)
      case atStart => exact ⟨0, by omega, rfl, by rw [show T0 ++ joinF (L.take 0) = T0 by simp [joinF]]; exact hW6, hblk, hQ6⟩
      case round =>
        clear hW6 hblk hQ6
        obtain ⟨m, hm, rfl, hW, hblk, hQ⟩ := hrel
        have hBl : B0 < wr.heap.size := hW.elim (fun x => x.lt) (fun x => x.lt)
        by_cases hlm : m < n
        · have c0 := HG.out wr hblk m hlm
          obtain ⟨hz0, hz1⟩ := HNu.out m hlm
          have HK := Lib.hid (HTK.out m hlm)
          have hJ := HJL.out m
          have hmz : (m : Int) < n := by omega
          have hm0 : (0 : Int) ≤ m := by omega
          clear HG HNu HTK HJL
          generalize atI L m = z at *
          have hil := itoa_six hz0 hz1
          have HI := Lib.hid (fun W (hW : Q w W) => lib_Itoa z (by omega) (by omega) W (hE.q hW))
          have HS : Hid (∀ (bs : Str) W, bs.length ≤ 3000000 → Lib.IsBuilder 98 5 B0 B0 (Lib.byteCells bs) W → B0 ≤ W.heap.size → Calls Tryz.prog 56 #[.pointer (some ⟨B0, 0, none⟩), .string ⟨(Lib.itoa z).toArray⟩] W fun e w' => e = .returned (.tuple #[.int .i64 ((⟨(Lib.itoa z).toArray⟩ : ByteArray).size), .nilIface]) ∧ Lib.BuilderAt 98 5 B0 B0 (.pointer (some ⟨B0, 0, none⟩)) (Lib.byteCells bs ++ Lib.strCells ⟨(Lib.itoa z).toArray⟩) w' ∧ Below B0 W w' ∧ Far W B0 w') :=
            Lib.hid (fun bs W hb hW hB => builder_WriteString3 B0 B0 _ ⟨(Lib.itoa z).toArray⟩ W hW (by rw [Lib.byteCells_length]; have : (⟨(Lib.itoa z).toArray⟩ : ByteArray).size = (Lib.itoa z).length := rfl; omega) hB)
          by_cases h0 : m = 0
          · have hJ2 : Hid (T0 ++ joinF (L.take (m + 1)) = (T0 ++ joinF (L.take m)) ++ Lib.itoa z) := Lib.hid (by rw [HK.out, joinF_snoc, h0, List.take_zero, if_pos rfl]; simp [joinF])
            have hd : decide ((0 : Int) < m) = false := by simp; omega
            have hd2 : ¬ (0 : Int) < m := by omega
            clear h0 HK
            go_wp2_with fail
            refine (HI.out _ hQ).mono ?_
            rintro e w7 ⟨rfl, hq7⟩
            have hW7 := isBuilder_keep hW hq7
            have hblk7 := (hq7.block g (Array.getElem?_eq_some_iff.1 hblk).1).trans hblk
            have hQ7 := Q.trans hQ hq7
            have hB7 : B0 ≤ w7.heap.size := by have := hq7.size; omega
            clear HI hW hblk hQ hq7
            go_wp2_with fail
            refine (HS.out (T0 ++ joinF (L.take m)) w7 (by rw [List.length_append]; omega) hW7 hB7).mono ?_
            rintro e w8 ⟨rfl, hA8, hb8, hF8⟩
            have hblk8 := far_cells hF8 hblk7 hgB (by decide)
            have hQ8 : Q w w8 := Below.trans hQ7 (hb8.mono hwB)
            have hB8 : Lib.IsBuilder 98 5 B0 B0 (Lib.byteCells (T0 ++ joinF (L.take (m + 1)))) w8 := .inr (by rw [hJ2.out, byteCells_str]; exact hA8)
            clear HS hJ2 hA8 hb8 hF8 hW7 hblk7 hQ7
            go_wp2
            go_roundw
            case rel => exact ⟨m + 1, by omega, by go_num, hB8, hblk8, hQ8⟩
            case measure => simp [intOf]; omega
          · have hd : decide ((0 : Int) < m) = true := by simp; omega
            have hm1 : (0 : Int) < m := by omega
            have hne : L.take m ≠ [] := by
              intro e
              have h1 := congrArg List.length e
              rw [List.length_take, HLn.out, List.length_nil] at h1
              omega
            have hJ2 : Hid (T0 ++ joinF (L.take (m + 1)) = ((T0 ++ joinF (L.take m)) ++ [32]) ++ Lib.itoa z) := Lib.hid (by rw [HK.out, joinF_snoc, if_neg hne]; simp)
            clear hne HK
            have HWB := Lib.hid (builder_WriteByte3 B0 B0 (Lib.byteCells (T0 ++ joinF (L.take m))) 32 wr hW (by rw [Lib.byteCells_length, List.length_append]; omega) (Nat.le_of_lt hBl))
            go_wp2_with fail
            refine HWB.out.mono ?_
            rintro e w6 ⟨rfl, hA6, hb6, hF6⟩
            have hW6 : Lib.IsBuilder 98 5 B0 B0 (Lib.byteCells ((T0 ++ joinF (L.take m)) ++ [32])) w6 := .inr (by rw [Lib.byteCells_append]; exact hA6)
            have hblk6 := far_cells hF6 hblk hgB (by decide)
            have hQ6 : Q w w6 := Below.trans hQ (hb6.mono hwB)
            have hB6 : B0 ≤ w6.heap.size := Nat.le_trans (Nat.le_of_lt hBl) hF6.1
            clear HWB hA6 hb6 hF6 hW hblk hQ
            go_wp2_with fail
            refine (HI.out _ hQ6).mono ?_
            rintro e w7 ⟨rfl, hq7⟩
            have hW7 := isBuilder_keep hW6 hq7
            have hblk7 := (hq7.block g (Array.getElem?_eq_some_iff.1 hblk6).1).trans hblk6
            have hQ7 := Q.trans hQ6 hq7
            have hB7 : B0 ≤ w7.heap.size := by have := hq7.size; omega
            clear HI hW6 hblk6 hQ6 hq7
            go_wp2_with fail
            refine (HS.out ((T0 ++ joinF (L.take m)) ++ [32]) w7 (by rw [List.length_append, List.length_append, List.length_singleton]; omega) hW7 hB7).mono ?_
            rintro e w8 ⟨rfl, hA8, hb8, hF8⟩
            have hblk8 := far_cells hF8 hblk7 hgB (by decide)
            have hQ8 : Q w w8 := Below.trans hQ7 (hb8.mono hwB)
            have hB8 : Lib.IsBuilder 98 5 B0 B0 (Lib.byteCells (T0 ++ joinF (L.take (m + 1)))) w8 := .inr (by rw [hJ2.out, byteCells_str]; exact hA8)
            clear HS hJ2 hA8 hb8 hF8 hW7 hblk7 hQ7
            go_wp2
            go_roundw
            case rel => exact ⟨m + 1, by omega, by go_num, hB8, hblk8, hQ8⟩
            case measure => simp [intOf]; omega
        · obtain rfl : m = n := by omega
          have hJ := HJL.out m
          have hLt : L.take m = L := by rw [← HLn.out]; exact List.take_length
          have HWB := Lib.hid (builder_WriteByte3 B0 B0 (Lib.byteCells (T0 ++ joinF (L.take m))) 10 wr hW (by rw [Lib.byteCells_length, List.length_append]; omega) (Nat.le_of_lt hBl))
          rw [hLt] at HWB
          clear HG HNu HTK HJL hLt
          go_wp2_with fail
          refine HWB.out.mono ?_
          rintro e w6 ⟨rfl, hA6, hb6, hF6⟩
          have hW6 : Lib.IsBuilder 98 5 B0 B0 (Lib.byteCells (textF (l.take (k + 1)))) w6 := .inr (by rw [HTk.out, ← List.append_assoc, Lib.byteCells_append]; exact hA6)
          have hQ6 : Q w w6 := Below.trans hQ (hb6.mono hwB)
          clear HWB hA6 hb6 hF6 hW hblk hQ HTk HLn
          go_wp2
          go_roundw
          case rel => exact ⟨k + 1, by omega, by go_num, hQ6, hW6⟩
          case measure => simp [intOf]; omega
    · obtain rfl : k = l.length := by omega
      rw [HL.out] at hW
      clear HV HO HT HB HL
      go_wp2_with fail
      refine (Tryz.Builder_String_any B0 B0 (textF l) _ hW (Nat.le_of_lt hBl)).mono ?_
      rintro e w3 ⟨rfl, hq3⟩
      go_wp2
      go_ret
      exact ⟨rfl, Below.trans hQ (hq3.mono hwB)⟩

end Go.Proofs.YtohlpeicpoaanaaGreatDoor
