/-
  Walks: root.check, of, negative, Normal at numbers with short parts.
-/
import Derived.Test.YtgkikkabmcihhaaGreatDoorWL
namespace Go.Proofs.YtgkikkabmcihhaaGreatDoor
open Go.RowKit Kp

theorem quiet_same {P : Program} {f : FuncId} {args : Array Value} {w : World} {n : Nat} {v : Value}
    (h : Calls P f args (w.drewN n) fun e w' => e = .returned v ∧ w.drewN n = w') : Calls P f args (w.drewN n) fun e w'' => e = .returned v ∧ ∃ m, w'' = w.drewN m :=
  h.mono fun _ _ ⟨he, hm⟩ => ⟨he, n, hm.symm⟩

/-- A slice of strings that lies in memory. -/
def StrSl (w : World) (v : Value) (l : List Str) : Prop :=
  ∃ b off cap, v = .slice (some ⟨b, off, none⟩) l.length cap ∧ b < w.heap.size ∧ ∀ i, i < l.length → w.cell? ⟨b, off + i, none⟩ = some (.string ⟨(l.getD i []).toArray⟩)

set_option maxHeartbeats 400000 in
theorem root_negative (s : Str) (w : World) :
    Calls Tryz.prog 252 #[.string ⟨s.toArray⟩] w fun e w' => e = .returned (.bool (decide (s.head? = some 45))) ∧ w = w' := by
  go_enter Tryz.func252, Tryz.ntmps252
  go_wp2_with fail
  refine (lib_HasMinus s _).mono ?_
  rintro e w1 ⟨rfl, rfl⟩
  go_wp2
  go_ret
  exact ⟨rfl, rfl⟩

theorem ret_of (tmps : Array Value) (W : World) (b : Nat) (x y : Value) (hp : tmps.getD 2 undef = .pointer (some ⟨b, 0, none⟩))
    (c0 : W.cell? ⟨b, 0, none⟩ = some x) (c1 : W.cell? ⟨b, 1, none⟩ = some y) :
    (results Tryz.f184 tmps).run Tryz.prog W = .ok (.agg #[x, y]) W := by
  simp only [Array.getD_eq_getD_getElem?] at hp
  simp [results, Tryz.results184, go_sem, hp, c0, c1]

set_option maxHeartbeats 400000 in
theorem root_of_small (q : Rat) (h : Small8 q) (w : World) (hE : Env w) :
    Calls Tryz.prog 184 #[.string ⟨(rstr q).toArray⟩] w fun e w' => e = .returned (.agg #[.string ⟨(Lib.itoa q.num).toArray⟩, .string ⟨(Lib.itoa (q.den : Int)).toArray⟩]) ∧ Q w w' := by
  go_enter Tryz.func184, Tryz.ntmps184
  go_wp2_with fail
  refine (rational_Parts_small q h _ (hE.q (by repeat (first | exact Below.refl _ _ | assumption | refine below_drewN ?_ _ | refine Below.drew ?_ | refine Below.alloc ?_ (by first | (simp; done) | (simp; omega)) _ | refine Below.setCell ?_ (by first | (simp; done) | (simp; omega)) _)))).mono ?_
  rintro e w1 ⟨rfl, hq1⟩
  have hQ1 : Q w w1 := (show Below w.heap.size w _ from (by repeat (first | exact Below.refl _ _ | assumption | refine below_drewN ?_ _ | refine Below.drew ?_ | refine Below.alloc ?_ (by first | (simp; done) | (simp; omega)) _ | refine Below.setCell ?_ (by first | (simp; done) | (simp; omega)) _))).trans (hq1.mono (by simp))
  have B1 := (Blk.new w [.string ⟨#[]⟩, .string ⟨#[]⟩] 209).keep hq1 (by simp)
  have c0 := B1.cell 0
  have c1 := B1.cell 1
  have f0 := B1.frozen 0
  have f1 := B1.frozen 1
  have l1 := B1.lt
  simp only [List.getElem?_cons_zero, List.getElem?_cons_succ] at c0 c1
  go_wp2
  refine bodyPost_ret (v := .agg #[.string ⟨(Lib.itoa q.num).toArray⟩, .string ⟨(Lib.itoa (q.den : Int)).toArray⟩])
    (ret_of _ _ w.heap.size _ _ rfl (((B1.set 0 _).set 1 _).cell 0) (((B1.set 0 _).set 1 _).cell 1)) rfl ⟨rfl, ?_⟩
  exact (hQ1.setCell (p := ⟨w.heap.size, 0, none⟩) (Nat.le_refl _) _).setCell (p := ⟨w.heap.size, 1, none⟩) (Nat.le_refl _) _

theorem rstr_head (q : Rat) : (rstr q).head? = some 45 ↔ q.num < 0 := by
  unfold rstr; split
  · have := head_itoa q.num []; rw [List.append_nil] at this; exact this
  · exact head_itoa q.num _

set_option maxRecDepth 100000 in
set_option maxHeartbeats 1000000 in
theorem root_check_small (qs rs : List Rat) (hq8 : ∀ q ∈ qs, Small8 q) (v1 v2 : Value) (w : World) (hE : Env w) (h1 : StrSl w v1 (qs.map rstr)) (h2 : StrSl w v2 (rs.map rstr)) (hl1 : qs.length ≤ 100) (hl2 : rs.length ≤ 100) :
    Calls Tryz.prog 182 #[v1, v2] w fun e w' => e = .returned (.int .i64 (if ∀ q ∈ rs, 0 ≤ q.num then 0 else 2)) ∧ Q w w' := by
  obtain ⟨b1, o1, cap1, rfl, hb1, hc1⟩ := h1
  obtain ⟨b2, o2, cap2, rfl, hb2, hc2⟩ := h2
  rw [List.length_map] at hc1 hc2
  rw [List.length_map, List.length_map]
  generalize hans : (if ∀ q ∈ rs, 0 ≤ q.num then 0 else 2 : Int) = ans
  have hans1 : Hid ((∀ q ∈ rs, 0 ≤ q.num) → ans = 0) := Lib.hid (fun h => by rw [← hans, if_pos h])
  have hans2 : Hid ((¬ ∀ q ∈ rs, 0 ≤ q.num) → ans = 2) := Lib.hid (fun h => by rw [← hans, if_neg h])
  clear hans
  go_enter Tryz.func182, Tryz.ntmps182
  go_wp2
  go_loopw [13] (fun i wr => ∃ k : Nat, k ≤ qs.length ∧ i = .int .i64 k ∧ Q w wr ∧ Env wr) (fun i _ => qs.length - (intOf i).toNat)
  case atStart => exact ⟨0, by omega, rfl, Below.refl _ _, hE⟩
  case round =>
    obtain ⟨k, hk, rfl, hQ, hEr⟩ := hrel
    by_cases hlt : k < qs.length
    · have hcell := hc1 k hlt
      have hcell' : wr.cell? ⟨b1, o1 + k, none⟩ = some (.string ⟨((qs.map rstr).getD k []).toArray⟩) := by rw [hQ.cell (p := ⟨b1, o1 + k, none⟩) hb1]; exact hcell
      have hq : (qs.map rstr).getD k [] = rstr qs[k] := by rw [List.getD_eq_getElem?_getD, List.getElem?_map, List.getElem?_eq_getElem hlt]; rfl
      have h8 := hq8 qs[k] (List.getElem_mem hlt)
      rw [hq] at hcell'
      clear hcell hc1 hc2 hq8 hq
      generalize qs[k] = q at *
      have lq1 := itoa_len q.num (lim_small (by have := h8.1; omega))
      have ln1 : (unsig (Lib.itoa q.num)).length ≤ 8 := by rw [unsig_itoa]; exact (decDigits_len_le _ 8 (by decide)).2 (by have := h8.1; omega)
      have ld1 : (Lib.itoa (q.den : Int)).length ≤ 8 := by rw [← dec_eq_itoa]; exact (decDigits_len_le _ 8 (by decide)).2 (by have := h8.2; omega)
      go_wp2_with fail
      refine (rational_Check_small q h8 _ hEr).mono ?_
      rintro e w1 ⟨rfl, hq1⟩
      go_wp2_with fail
      refine (root_of_small q h8 _ (hEr.q hq1)).mono ?_
      rintro e w2 ⟨rfl, hq2⟩
      have hQ2 : Q w w2 := hQ.trans ((hq1.trans (hq2.mono hq1.size)).mono hQ.size)
      go_wp2_with fail
      go_quiet ((go_at_call 188; exact quiet_same (lib_TrimMinus _ _)))
      go_wp2
      go_roundw
      case rel => exact ⟨k + 1, by omega, by go_num, Below.drewN (hQ2.alloc hQ2.size _) _, hE.q (Below.drewN (hQ2.alloc hQ2.size _) _)⟩
      case measure => simp [intOf]; omega
    · obtain rfl : k = qs.length := by omega
      go_wp2
      go_loop [36] (fun i => ∃ k : Nat, k ≤ rs.length ∧ i = .int .i64 k ∧ ∀ q ∈ rs.take k, 0 ≤ q.num) (fun i => rs.length - (intOf i).toNat)
      case atStart => exact ⟨0, by omega, rfl, by simp⟩
      case round =>
        obtain ⟨k, hk, rfl, hall⟩ := hrel
        have HA := Lib.hid hall
        clear hall
        by_cases hlt : k < rs.length
        · have hcell := hc2 k hlt
          have hcell' : wr.cell? ⟨b2, o2 + k, none⟩ = some (.string ⟨((rs.map rstr).getD k []).toArray⟩) := by rw [hQ.cell (p := ⟨b2, o2 + k, none⟩) hb2]; exact hcell
          have hq : (rs.map rstr).getD k [] = rstr rs[k] := by rw [List.getD_eq_getElem?_getD, List.getElem?_map, List.getElem?_eq_getElem hlt]; rfl
          rw [hq] at hcell'
          have HR : Hid (rs[k].num < 0 → ¬ ∀ q ∈ rs, 0 ≤ q.num) := Lib.hid (fun hneg hx => by have := hx rs[k] (List.getElem_mem hlt); omega)
          have HN : Hid (¬ rs[k].num < 0 → ∀ q ∈ rs.take (k + 1), 0 ≤ q.num) := Lib.hid (fun hneg => by
              rw [List.take_succ_eq_append_getElem hlt]
              intro q hq
              rcases List.mem_append.1 hq with hq | hq
              · exact HA.out q hq
              · rw [List.mem_singleton] at hq; subst hq; omega)
          clear hcell hq hc1 hc2 hq8 HA
          generalize hqk : rs[k] = q at hcell' HR HN
          clear hqk
          by_cases hneg : q.num < 0
          · have hd : decide ((rstr q).head? = some 45) = true := by rw [decide_eq_true_eq, rstr_head]; exact hneg
            have HX : Hid (¬ ∀ q ∈ rs, 0 ≤ q.num) := Lib.hid (HR.out hneg)
            clear hneg HR HN
            go_wp2_with (go_at_call 252; go_loud (refine (root_negative _ _).mono ?_); rintro e w1 ⟨rfl, rfl⟩)
            go_ret
            exact ⟨ret_int (by rw [hans2.out HX.out]; all_goals rfl), hQ⟩
          · have hd : decide ((rstr q).head? = some 45) = false := by rw [decide_eq_false_iff_not, rstr_head]; exact hneg
            have HX : Hid (∀ q ∈ rs.take (k + 1), 0 ≤ q.num) := Lib.hid (HN.out hneg)
            clear hneg HR HN
            go_wp2_with (go_at_call 252; go_loud (refine (root_negative _ _).mono ?_); rintro e w1 ⟨rfl, rfl⟩)
            go_round
            case rel => exact ⟨k + 1, by omega, by go_num, HX.out⟩
            case measure => simp [intOf]; omega
        · have HR : Hid (∀ q ∈ rs, 0 ≤ q.num) := Lib.hid (by
            have := HA.out
            rw [List.take_of_length_le (by omega)] at this; exact this)
          clear hc1 hc2 hq8
          go_wp2
          go_ret
          exact ⟨ret_int (by rw [hans1.out HR.out]; all_goals rfl), hQ⟩

end Go.Proofs.YtgkikkabmcihhaaGreatDoor
