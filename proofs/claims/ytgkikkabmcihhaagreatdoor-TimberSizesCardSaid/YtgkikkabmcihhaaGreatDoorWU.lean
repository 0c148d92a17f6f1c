/-
  Walks: the reference's Find, timber.Find, and what they call.
-/
import Derived.Test.YtgkikkabmcihhaaGreatDoorWT
namespace Go.Proofs.YtgkikkabmcihhaaGreatDoor
open Go.RowKit Kp

/-- A size as a value. -/
def szV (s : Sz) : Value := .agg #[.int .i64 s.k, .int .i64 s.w, .int .i64 s.d]

theorem ret_refFind (tmps : Array Value) (W : World) (b : Nat) (x y z u : Value) (n m : Nat) (fn : Func) (hf : fn.results = #[.cell n 35, .tmp m]) (hp : tmps.getD n undef = .pointer (some ⟨b, 0, none⟩)) (hu : tmps.getD m undef = u)
    (c0 : W.cell? ⟨b, 0, none⟩ = some x) (c1 : W.cell? ⟨b, 1, none⟩ = some y) (c2 : W.cell? ⟨b, 2, none⟩ = some z) :
    (results fn tmps).run Tryz.prog W = .ok (.tuple #[.agg #[x, y, z], u]) W := by
  simp only [Array.getD_eq_getD_getElem?] at hp hu
  simp [results, hf, go_sem, hp, hu, c0, c1, c2]

set_option maxHeartbeats 1000000 in
theorem timber_Find1 (s : Sz) (kind : Int) (c : Nat) (w : World) (hc : w.cell? ⟨c, 0, none⟩ = some (.int .i64 kind)) :
    Calls Tryz.prog 53 #[szV s, .pointer (some ⟨c, 0, none⟩)] w fun e w' => e = .returned (.bool (s.k == kind)) ∧ Q w w' := by
  have lc := World.block_lt_of_cell? w _ hc
  have hlt : c < w.heap.size := lc
  clear lc
  unfold szV
  obtain ⟨sk, sw, sd⟩ := s
  simp only
  go_enter Tryz.func53, Tryz.ntmps53
  go_wp2
  go_ret
  exact ⟨rfl, (by repeat (first | exact Below.refl _ _ | assumption | refine below_drewN ?_ _ | refine Below.drew ?_ | refine Below.alloc ?_ (by first | (simp; done) | (simp; omega)) _ | refine Below.setCell ?_ (by first | (simp; done) | (simp; omega)) _))⟩

set_option maxHeartbeats 1000000 in
theorem indexFunc_size (l : List Sz) (hln : l.length < 4611686018427387904) (kind : Int) (c : Nat) (v : Value) (w : World) (hl : SzSl w v l) (hc : w.cell? ⟨c, 0, none⟩ = some (.int .i64 kind)) :
    Calls Tryz.prog 52 #[v, .func (.func 53) #[] #[.pointer (some ⟨c, 0, none⟩)]] w fun e w' => ∃ r, e = .returned (.int .i64 r) ∧ Hid (FindIx l kind r) ∧ Q w w' := by
  have lc : c < w.heap.size := World.block_lt_of_cell? w _ hc
  rcases hl.cases with ⟨rfl, a, cap, rfl⟩ | ⟨b, o, cap, rfl, hA⟩
  · clear hl
    go_enter Tryz.func52, Tryz.ntmps52
    go_wp2
    go_loopw [8] (fun i wr => i = .int .i64 0 ∧ Q w wr) (fun _ _ => 0)
    case atStart => exact ⟨rfl, Below.refl _ _⟩
    case round =>
      obtain ⟨rfl, hQ⟩ := hrel
      go_wp2
      go_ret
      exact ⟨_, rfl, Lib.hid (.inl ⟨rfl, rfl⟩), hQ⟩
  · clear hl
    have HA := Lib.hid hA
    clear hA
    go_enter Tryz.func52, Tryz.ntmps52
    go_wp2
    go_loopw [8] (fun i wr => ∃ k : Nat, k ≤ l.length ∧ i = .int .i64 k ∧ Q w wr ∧ Hid (∀ j, j < k → (l.getD j ⟨0, 0, 0⟩).k ≠ kind)) (fun i _ => l.length - (intOf i).toNat)
    case atStart => exact ⟨0, by omega, rfl, Below.refl _ _, Lib.hid (fun j hj => absurd hj (Nat.not_lt_zero _))⟩
    case round =>
      obtain ⟨k, hk, rfl, hQ, HN0⟩ := hrel
      have HN := Lib.hid HN0.out
      clear HN0
      by_cases hlt : k < l.length
      · have HA2 := Lib.hid (HA.out.keep hQ HA.out.1)
        obtain ⟨d0, d1, d2⟩ := HA2.out.2 k hlt
        have hk0 : (0 : Int) ≤ (k : Int) := by omega
        have hkl : (k : Int) < (l.length : Int) := by omega
        have hcw := (hQ.cell (p := ⟨c, 0, none⟩) lc).trans hc
        by_cases heq : (l.getD k ⟨0, 0, 0⟩).k = kind
        · have HX : Hid (FindIx l kind k) := Lib.hid (.inr ⟨k, hlt, rfl, sfind_at hlt HN.out heq⟩)
          have hb : ((l.getD k ⟨0, 0, 0⟩).k == kind) = true := by rw [beq_iff_eq]; exact heq
          clear heq
          generalize l.getD k ⟨0, 0, 0⟩ = s at d0 d1 d2 hb
          go_wp2_with fail
          refine (timber_Find1 s kind c _ hcw).mono ?_
          rintro e w1 ⟨rfl, hq1⟩
          go_wp2
          go_ret
          exact ⟨_, rfl, HX, hQ.trans (hq1.mono hQ.size)⟩
        · have HNe : Hid (∀ i, i < k + 1 → (l.getD i ⟨0, 0, 0⟩).k ≠ kind) := Lib.hid (fun i hi => by
            by_cases hij : i = k
            · subst hij; exact heq
            · exact HN.out i (by omega))
          have hb : ((l.getD k ⟨0, 0, 0⟩).k == kind) = false := by rw [beq_eq_false_iff_ne]; exact heq
          clear heq
          generalize l.getD k ⟨0, 0, 0⟩ = s at d0 d1 d2 hb
          go_wp2_with fail
          refine (timber_Find1 s kind c _ hcw).mono ?_
          rintro e w1 ⟨rfl, hq1⟩
          go_wp2
          go_roundw
          case rel => exact ⟨k + 1, by omega, by go_num, hQ.trans (hq1.mono hQ.size), HNe⟩
          case measure => simp [intOf]; omega
      · obtain rfl : k = l.length := by omega
        have HX : Hid (FindIx l kind (-1)) := Lib.hid (.inl ⟨rfl, sfind_all HN.out⟩)
        go_wp2
        go_ret
        exact ⟨_, rfl, HX, hQ⟩

set_option maxHeartbeats 1000000 in
theorem timber_Find (l : List Sz) (hln : l.length < 4611686018427387904) (kind : Int) (v : Value) (w : World) (hl : SzSl w v l) :
    Calls Tryz.prog 19 #[v, .int .i64 kind] w fun e w' => e = .returned (.tuple #[szV (fsz l kind), .int .i64 (ferr l kind)]) ∧ Q w w' := by
  have HL := Lib.hid hl
  go_enter Tryz.func19, Tryz.ntmps19
  go_wp2_with fail
  have hq0 : Q w ((w.alloc (.cells #[.int .i64 kind] 3)).alloc (.cells #[.int .i64 0, .int .i64 0, .int .i64 0] 35)) := (by repeat (first | exact Below.refl _ _ | assumption | refine below_drewN ?_ _ | refine Below.drew ?_ | refine Below.alloc ?_ (by first | (simp; done) | (simp; omega)) _ | refine Below.setCell ?_ (by first | (simp; done) | (simp; omega)) _))
  refine (timber_Check l hln v _ (hl.keep hq0)).mono ?_
  rintro e w1 ⟨rfl, hq1⟩
  have hQ1 : Q w w1 := hq0.trans (hq1.mono hq0.size)
  have BC := ((Blk.new w [.int .i64 kind] 3).alloc (.cells #[.int .i64 0, .int .i64 0, .int .i64 0] 35)).keep hq1 (by simp; omega)
  have BR := (Blk.new (w.alloc (.cells #[.int .i64 kind] 3)) [.int .i64 0, .int .i64 0, .int .i64 0] 35).keep hq1 (by simp)
  rw [World.size_alloc] at BR
  have hl1 := hl.keep hQ1
  clear hl hq0 hq1
  by_cases hs : scheck l [] = 0
  · have hsb : (scheck l [] != 0) = false := by rw [hs]; rfl
    have HS := Lib.hid hs
    clear hs
    generalize hx : scheck l [] = x at hsb
    have HXX := Lib.hid hx
    clear hx
    go_wp2_with fail
    refine (indexFunc_size l hln kind w.heap.size v _ hl1 ((BC.cell 0).trans rfl)).mono ?_
    rintro e w2 ⟨r, rfl, HF, hq2⟩
    have hQ2 := hQ1.trans (hq2.mono hQ1.size)
    have BR2 := BR.keep hq2 BR.lt
    have hl2 := hl1.keep hq2
    clear hq2 BC BR hl1 hQ1
    have l2 := BR2.lt
    have f0 := BR2.frozen 0
    have f1 := BR2.frozen 1
    have f2 := BR2.frozen 2
    have c0 := BR2.cell 0
    have c1 := BR2.cell 1
    have c2 := BR2.cell 2
    simp only [List.getElem?_cons_zero, List.getElem?_cons_succ] at c0 c1 c2
    rcases HF.out with ⟨rfl, hn⟩ | ⟨i, hi, rfl, hf⟩
    · have HR : Hid (szV (fsz l kind) = .agg #[.int .i64 0, .int .i64 0, .int .i64 0] ∧ ferr l kind = 6) := Lib.hid (by
        unfold fsz ferr; rw [if_pos HS.out, if_pos HS.out, hn]; exact ⟨rfl, rfl⟩)
      clear hn
      go_wp2_with fail
      refine bodyPost_ret (v := .tuple #[.agg #[.int .i64 0, .int .i64 0, .int .i64 0], .int .i64 6])
        (ret_refFind _ _ (w.heap.size + 1) _ _ _ _ 4 5 _ rfl rfl rfl ((((BR2.set 0 _).set 1 _).set 2 _).cell 0) ((((BR2.set 0 _).set 1 _).set 2 _).cell 1) ((((BR2.set 0 _).set 1 _).set 2 _).cell 2)) rfl ⟨by rw [HR.out.1, HR.out.2], ?_⟩
      exact ((hQ2.setCell (p := ⟨w.heap.size + 1, 0, none⟩) (by simp) _).setCell (p := ⟨w.heap.size + 1, 1, none⟩) (by simp) _).setCell (p := ⟨w.heap.size + 1, 2, none⟩) (by simp) _
    · have HR : Hid (szV (fsz l kind) = .agg #[.int .i64 (l.getD i ⟨0, 0, 0⟩).k, .int .i64 (l.getD i ⟨0, 0, 0⟩).w, .int .i64 (l.getD i ⟨0, 0, 0⟩).d] ∧ ferr l kind = 0) := Lib.hid (by
        unfold fsz ferr; rw [if_pos HS.out, if_pos HS.out, hf]; exact ⟨rfl, rfl⟩)
      clear hf
      rcases hl2.cases with ⟨rfl, a, cap, rfl⟩ | ⟨b, o, cap, rfl, hA⟩
      · exact absurd hi (Nat.not_lt_zero _)
      · clear hl2
        obtain ⟨d0, d1, d2⟩ := hA.2 i hi
        have hA1 := hA.1
        have hi0 : (0 : Int) ≤ (i : Int) := by omega
        have hil : (i : Int) < (l.length : Int) := by omega
        clear hA
        generalize l.getD i ⟨0, 0, 0⟩ = s at d0 d1 d2 HR
        go_wp2_with fail
        refine bodyPost_ret (v := .tuple #[.agg #[.int .i64 s.k, .int .i64 s.w, .int .i64 s.d], .int .i64 0])
          (ret_refFind _ _ (w.heap.size + 1) _ _ _ _ 4 5 _ rfl rfl rfl ((((BR2.set 0 _).set 1 _).set 2 _).cell 0) ((((BR2.set 0 _).set 1 _).set 2 _).cell 1) ((((BR2.set 0 _).set 1 _).set 2 _).cell 2)) rfl ⟨by rw [HR.out.1, HR.out.2], ?_⟩
        exact ((hQ2.setCell (p := ⟨w.heap.size + 1, 0, none⟩) (by simp) _).setCell (p := ⟨w.heap.size + 1, 1, none⟩) (by simp) _).setCell (p := ⟨w.heap.size + 1, 2, none⟩) (by simp) _
  · have hsb : (scheck l [] != 0) = true := by rw [bne_iff_ne]; exact hs
    have HR : Hid (szV (fsz l kind) = .agg #[.int .i64 0, .int .i64 0, .int .i64 0] ∧ ferr l kind = 1) := Lib.hid (by
      unfold fsz ferr; rw [if_neg hs, if_neg hs]; exact ⟨rfl, rfl⟩)
    clear hs
    generalize scheck l [] = x at hsb
    have l2 := BR.lt
    have f0 := BR.frozen 0
    have f1 := BR.frozen 1
    have f2 := BR.frozen 2
    have c0 := BR.cell 0
    have c1 := BR.cell 1
    have c2 := BR.cell 2
    simp only [List.getElem?_cons_zero, List.getElem?_cons_succ] at c0 c1 c2
    go_wp2_with fail
    refine bodyPost_ret (v := .tuple #[.agg #[.int .i64 0, .int .i64 0, .int .i64 0], .int .i64 1])
      (ret_refFind _ _ (w.heap.size + 1) _ _ _ _ 4 5 _ rfl rfl rfl ((((BR.set 0 _).set 1 _).set 2 _).cell 0) ((((BR.set 0 _).set 1 _).set 2 _).cell 1) ((((BR.set 0 _).set 1 _).set 2 _).cell 2)) rfl ⟨by rw [HR.out.1, HR.out.2], ?_⟩
    exact ((hQ1.setCell (p := ⟨w.heap.size + 1, 0, none⟩) (by simp) _).setCell (p := ⟨w.heap.size + 1, 1, none⟩) (by simp) _).setCell (p := ⟨w.heap.size + 1, 2, none⟩) (by simp) _

end Go.Proofs.YtgkikkabmcihhaaGreatDoor
