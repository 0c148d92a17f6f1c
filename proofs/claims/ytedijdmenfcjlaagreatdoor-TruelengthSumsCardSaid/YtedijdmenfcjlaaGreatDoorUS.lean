/-
  truelength.Sum and Difference at small members.; Members in memory: slices.Clone and Reverse; truelength.Difference; the law's small members.; The law TruelengthSums: its walk.
-/
import Derived.Test.YtedijdmenfcjlaaGreatDoorUW
import Derived.Shelf.SlicesQ.Reverse
import Derived.OwnWalk
namespace Go.Proofs.YtedijdmenfcjlaaGreatDoor
open Go.RowKit Kp
structure Mem where
 f : P3
 t : P3
def Mem.s (m : Mem) : Rat := (m.t.sub m.f).sq
def Mem.c (m : Mem) : Rat × Nat := (aOf m.s, leftOf m.s)
structure MG (m : Mem) : Prop where
 bf : B3 3 m.f
 bt : B3 3 m.t
 ne : m.f ≠ m.t
 bd : B3 3 (m.t.sub m.f)
 sq : Bd 6 m.s
 pos : 0 < m.s.num
 gc : GC 1 m.c
def memC (m : Mem) : List Value := [.int .i64 1, .int .i64 0, .int .i64 (-1), .string ⟨(rstr m.f.x).toArray⟩, .string ⟨(rstr m.f.y).toArray⟩, .string ⟨(rstr m.f.z).toArray⟩, .string ⟨(rstr m.t.x).toArray⟩, .string ⟨(rstr m.t.y).toArray⟩, .string ⟨(rstr m.t.z).toArray⟩, .int .i64 60, .int .i64 180]
def wth (ms : List Mem) (k : Nat) : Rat := VL k (ms.map Mem.c)
theorem sv_one {m : Mem} (g : MG m) : SV 1 (wth [m]) [m.c] := by
 have h0 : m.c.1 ≠ 0 := fun e => by
  have h1 := aOf_pos g.sq g.pos
  rw [show aOf m.s = 0 from e] at h1; simp at h1
 refine ⟨⟨fun c hc => ?_, fun i hi => ?_, ?_, by simp⟩, ⟨1, by omega, by omega, g.gc, trivial⟩, fun k _ => rfl⟩
 ·rw [List.mem_singleton] at hc; subst hc
  exact g.gc.term (by decide) h0
 ·simp at hi
 ·unfold Apart; simp
theorem SurdL.setLow {w : World} {B : Nat} {v : Value} {L : List (Rat × Nat)} (h : SurdL w B v L) {g : Nat} (hg : g < B) (i : Nat) (x : Value) : SurdL (w.setCell ⟨g, i, none⟩ x) B v L := by
 refine ⟨h.1, h.2.elim Or.inl ?_⟩
 rintro ⟨g', cap, cur, hv, hg', hc, r⟩
 refine Or.inr ⟨g', cap, cur, hv, hg', ?_, r⟩
 have : ¬ g = g' := by omega
 simpa [World.setCell, Array.getElem?_modify, this] using hc
theorem SurdL.low {w : World} {B B' : Nat} {v : Value} {L : List (Rat × Nat)} (h : SurdL w B v L) (hB : B' ≤ B) : SurdL w B' v L := Joins.ownsRow_le h hB
theorem mem_Length {m : Mem} (g : MG m) (w : World) (hE : Env w) :
  Calls Tryz.prog 11 #[.agg (memC m).toArray] w fun e w' => ∃ v, e = .returned (.tuple #[v, .int .i64 0]) ∧ Q w w' ∧ SurdL w' w.heap.size v [m.c] :=
 (true_Length (m := 3) (by decide) 1 60 180 mok_law m.f m.t g.bf g.bt (by decide) g.ne w hE g.bd (g.sq.mono (by decide))).mono fun e w' ⟨v, he, hq, hl⟩ => ⟨v, he, hq, by
  rcases hl with ⟨h, _⟩ | ⟨_, hl⟩
  ·have h1 := g.pos
   rw [show m.s = 0 from h] at h1; simp at h1
  ·exact hl⟩
theorem mem_Check {m : Mem} (g : MG m) (w : World) (hE : Env w) :
  Calls Tryz.prog 21 #[.agg (memC m).toArray] w fun e w' => e = .returned (.int .i64 0) ∧ Q w w' :=
 hip_Check 1 60 180 mok_law m.f m.t g.bf g.bt (by decide) g.ne w hE
set_option maxRecDepth 100000 in
set_option maxHeartbeats 2000000 in
theorem true_Sum1 {m : Mem} (g : MG m) {n : Nat} {f : Nat → Rat} (L : List (Rat × Nat)) (sv : SV n f L) (hn : n + 1 ≤ 12) (S D base B : Nat) (hD : base ≤ D) (hSD : base ≤ S) (hne : S ≠ D) (hng : ng ≤ base) (hSB : S < B) (hDB : D < B) (v : Value) (w : World) (hE : Env w)
  (bS : Blk w S [v] 38) (bD : Blk w D [.int .i64 0] 39) (hv : SurdL w B v L) (hBw : B ≤ w.heap.size) :
  Calls Tryz.prog 22 #[.agg (memC m).toArray, .pointer (some ⟨D, 0, none⟩), .pointer (some ⟨S, 0, none⟩)] w fun e w' => e = .returned (.bool true) ∧ Below base w w' ∧
   ∃ v' M, Blk w' S [v'] 38 ∧ Blk w' D [.int .i64 0] 39 ∧ SurdL w' B v' M ∧ SV (n + 1) (fun k => f k + wth [m] k) M := by
 have HL := Lib.hid (fun w hw => mem_Length g w hw)
 have HA := Lib.hid (fun B1 B2 v1 v2 w hw h1 h2 => surd_Add_sv L [m.c] sv (sv_one g) hn B1 B2 v1 v2 w hw h1 h2)
 have HV := Lib.hid hv
 obtain ⟨a1, c1, rfl, -⟩ := hv.form
 clear hv sv g
 unfold memC at *
 generalize rstr m.f.x = X at *
 generalize rstr m.f.y = Y at *
 generalize rstr m.f.z = Z at *
 generalize rstr m.t.x = X' at *
 generalize rstr m.t.y = Y' at *
 generalize rstr m.t.z = Z' at *
 generalize L.length = n1 at *
 go_enter Tryz.func22, Tryz.ntmps22
 go_wp2_with fail
 refine (HL.out _ (hE.ofQ bt)).mono ?_
 rintro e w1 ⟨v2, rfl, hq1, hr2⟩
 have hQ1 : Q w w1 := Q.trans (show Q w _ from bt) hq1
 have R2 := Lib.hid (hr2.low (B' := w.heap.size) (by first | (simp; done) | (simp; omega)))
 obtain ⟨a2, c2, rfl, -⟩ := hr2.form
 clear hr2
 replace bS := bS.keep hQ1 bS.lt
 replace bD := bD.keep hQ1 bD.lt
 have lS := bS.lt
 have lD := bD.lt
 have d0 := bD.cell 0
 have e0 := bD.frozen 0
 simp only [List.getElem?_cons_zero] at d0
 have hB1 : Below base w w1 := hQ1.mono (by omega)
 have bS2 := bS.setOther (fun h => hne h.symm) 0 (.int .i64 0)
 have bD2 := bD.set 0 (.int .i64 0)
 simp only [List.set_cons_zero] at bD2
 have hB2 : Below base w (w1.setCell ⟨D, 0, none⟩ (.int .i64 0)) := hB1.setCell (p := ⟨D, 0, none⟩) hD _
 have V2 := Lib.hid ((HV.out.keep hQ1).setLow hDB 0 (.int .i64 0))
 have U2 := Lib.hid (R2.out.setLow (show D < w.heap.size by omega) 0 (.int .i64 0))
 have s0 := bS2.cell 0
 simp only [List.getElem?_cons_zero] at s0
 have q0 := bD2.cell 0
 simp only [List.getElem?_cons_zero] at q0
 clear R2 HV
 go_wp2_with fail
 refine (HA.out _ _ _ _ _ (hE.below hng hB2) V2.out U2.out).mono ?_
 rintro e w3 ⟨v4, M, rfl, hq3, hr4, hM⟩
 have R4 := Lib.hid (hr4.low (B' := B) (Nat.le_trans hBw hB2.size))
 have HM := Lib.hid hM
 obtain ⟨a4, c4, rfl, -⟩ := hr4.form
 clear hr4 hM
 generalize M.length = n4 at *
 replace bS2 := bS2.keep hq3 bS2.lt
 replace bD2 := bD2.keep hq3 bD2.lt
 have lS2 := bS2.lt
 have lD2 := bD2.lt
 have hB3 : Below base w w3 := hB2.trans (hq3.mono (by have := hB2.size; omega))
 clear s0 q0 d0 e0 bS bD lS lD hq1 hQ1 hB1 hB2 V2 U2
 have s0 := bS2.cell 0
 have t0 := bS2.frozen 0
 have d0 := bD2.cell 0
 have e0 := bD2.frozen 0
 simp only [List.getElem?_cons_zero] at s0 d0
 have bS3 := (bS2.set 0 (.slice a4 n4 c4)).setOther (fun h => hne h.symm) 0 (.int .i64 0)
 have bD3 := (bD2.setOther hne 0 (.slice a4 n4 c4)).set 0 (.int .i64 0)
 simp only [List.set_cons_zero] at bS3 bD3
 have hB4 : Below base w ((w3.setCell ⟨S, 0, none⟩ (.slice a4 n4 c4)).setCell ⟨D, 0, none⟩ (.int .i64 0)) := (hB3.setCell (p := ⟨S, 0, none⟩) hSD _).setCell (p := ⟨D, 0, none⟩) hD _
 have R5 := Lib.hid ((R4.out.setLow hSB 0 (.slice a4 n4 c4)).setLow hDB 0 (.int .i64 0))
 have q0 := bD3.cell 0
 simp only [List.getElem?_cons_zero] at q0
 clear R4
 go_wp2
 go_ret
 exact ⟨rfl, hB4, _, _, bS3, bD3, R5.out, HM.out⟩
def MSl (w : World) (v : Value) (ms : List Mem) : Prop := ∃ a cap, v = .slice a ms.length cap ∧ ∀ i (h : i < ms.length), ∃ b o, a = some ⟨b, o, none⟩ ∧ b < w.heap.size ∧ ∀ j u, (memC ms[i])[j]? = some u → w.cell? ⟨b, o + i * 11 + j, none⟩ = some u
theorem MSl.keep {w w' : World} {v : Value} {ms : List Mem} (h : MSl w v ms) (hq : Q w w') : MSl w' v ms := by
 obtain ⟨a, cap, rfl, hc⟩ := h
 refine ⟨a, cap, rfl, fun i hi => ?_⟩
 obtain ⟨b, o, ha, hb, h⟩ := hc i hi
 exact ⟨b, o, ha, Nat.lt_of_lt_of_le hb hq.size, fun j u hu => (hq.cell (p := ⟨b, o + i * 11 + j, none⟩) hb).trans (h j u hu)⟩
theorem wth_snoc (ms : List Mem) (m : Mem) (k : Nat) : wth (ms ++ [m]) k = wth ms k + wth [m] k := by
 unfold wth; rw [List.map_append, VL_append]
set_option maxRecDepth 100000 in
set_option maxHeartbeats 4000000 in
theorem true_Sum (ms : List Mem) (hg : ∀ m ∈ ms, MG m) (hn : ms.length ≤ 12) (v : Value) (w : World) (hE : Env w) (hv : MSl w v ms) :
  Calls Tryz.prog 8 #[v] w fun e w' => ∃ v' M, e = .returned (.tuple #[v', .int .i64 0]) ∧ Q w w' ∧ SurdL w' w.heap.size v' M ∧ SV ms.length (wth ms) M := by
 obtain ⟨a, cap, rfl, hc⟩ := hv
 have HC := Lib.hid hc
 have HK := Lib.hid (fun i (h : i < ms.length) w hw => mem_Check (hg _ (List.getElem_mem h)) w hw)
 have HS := Lib.hid (fun i (h : i < ms.length) f L sv S D B h1 h2 h3 h4 h5 v w' hw' k1 k2 k3 k4 => true_Sum1 (hg _ (List.getElem_mem h)) (n := i) (f := f) L sv (by omega) S D w.heap.size B h1 h2 h3 hE.size h4 h5 v w' hw' k1 k2 k3 k4)
 have HW := Lib.hid (fun i (h : i < ms.length) k => (by rw [← wth_snoc, List.take_succ_eq_append_getElem h] : wth (ms.take i) k + wth [ms[i]] k = wth (ms.take (i + 1)) k))
 have HT := Lib.hid (List.take_length (l := ms))
 clear hc hg
 have hn0 : (ms.length : Int) ≤ 12 := by omega
 go_enter Tryz.func8, Tryz.ntmps8
 go_wp2
 go_loopw [16] (fun i wr => ∃ k : Nat, k ≤ ms.length ∧ i = .int .i64 k ∧ Q w wr) (fun i _ => ms.length - (intOf i).toNat)
 case atStart => exact ⟨0, by omega, rfl, Q.refl _⟩
 case round =>
  obtain ⟨k, hk, rfl, hQ⟩ := hrel
  by_cases hlt : k < ms.length
  ·obtain ⟨b, o, ha, hb, hcc⟩ := HC.out k hlt
   subst ha
   generalize hmm : ms[k] = mm at *
   have cc : ∀ j u, (memC mm)[j]? = some u → wr.cell? ⟨b, o + k * 11 + j, none⟩ = some u := fun j u h => (hQ.cell (p := ⟨b, o + k * 11 + j, none⟩) hb).trans (hcc j u h)
   have c0 : wr.cell? ⟨b, o + k * 11, none⟩ = some (.int .i64 1) := cc 0 _ rfl
   have c1 : wr.cell? ⟨b, o + k * 11 + 1, none⟩ = some (.int .i64 0) := cc 1 _ rfl
   have c2 : wr.cell? ⟨b, o + k * 11 + 2, none⟩ = some (.int .i64 (-1)) := cc 2 _ rfl
   have c3 : wr.cell? ⟨b, o + k * 11 + 3, none⟩ = some (.string ⟨(rstr mm.f.x).toArray⟩) := cc 3 _ rfl
   have c4 : wr.cell? ⟨b, o + k * 11 + 4, none⟩ = some (.string ⟨(rstr mm.f.y).toArray⟩) := cc 4 _ rfl
   have c5 : wr.cell? ⟨b, o + k * 11 + 5, none⟩ = some (.string ⟨(rstr mm.f.z).toArray⟩) := cc 5 _ rfl
   have c6 : wr.cell? ⟨b, o + k * 11 + 6, none⟩ = some (.string ⟨(rstr mm.t.x).toArray⟩) := cc 6 _ rfl
   have c7 : wr.cell? ⟨b, o + k * 11 + 7, none⟩ = some (.string ⟨(rstr mm.t.y).toArray⟩) := cc 7 _ rfl
   have c8 : wr.cell? ⟨b, o + k * 11 + 8, none⟩ = some (.string ⟨(rstr mm.t.z).toArray⟩) := cc 8 _ rfl
   have c9 : wr.cell? ⟨b, o + k * 11 + 9, none⟩ = some (.int .i64 60) := cc 9 _ rfl
   have c10 : wr.cell? ⟨b, o + k * 11 + 10, none⟩ = some (.int .i64 180) := cc 10 _ rfl
   have HKK := Lib.hid (HK.out k hlt)
   have HJ : Hid (k + 1 ≤ ms.length) := Lib.hid hlt
   rw [hmm] at HKK
   have lbr := Nat.lt_of_lt_of_le hb hQ.size
   have hltz : (k : Int) < ms.length := by omega
   have hk0 : (0 : Int) ≤ k := by omega
   clear HC HK HS HW cc hcc hmm
   unfold memC at *
   generalize rstr mm.f.x = X at *
   generalize rstr mm.f.y = Y at *
   generalize rstr mm.f.z = Z at *
   generalize rstr mm.t.x = X' at *
   generalize rstr mm.t.y = Y' at *
   generalize rstr mm.t.z = Z' at *
   generalize ms.length = n at *
   go_wp2_with fail
   refine (HKK.out _ (hE.ofQ bt)).mono ?_
   rintro e w2 ⟨rfl, hq2⟩
   have hQ2 : Q w w2 := Q.trans (show Q w _ from bt) hq2
   go_wp2
   go_roundw
   case rel => exact ⟨k + 1, HJ.out, by go_num, hQ2⟩
   case measure => simp [intOf]; omega
  ·have hkn : k = ms.length := by omega
   subst hkn
   clear HK
   go_wp2_with fail
   have BS := (Blk.new wr [.slice none 0 0] 38).alloc (.cells #[.int .i64 0] 39)
   have BD := Blk.new1 wr (.cells #[.slice none 0 0] 38) [.int .i64 0] 39
   have hqS : Below w.heap.size w ((wr.alloc (.cells #[.slice none 0 0] 38)).alloc (.cells #[.int .i64 0] 39)) := bt
   have hwS : w.heap.size ≤ wr.heap.size := hQ.size
   obtain ⟨W0, hW0⟩ : ∃ W0, ((wr.alloc (.cells #[.slice none 0 0] 38)).alloc (.cells #[.int .i64 0] 39)) = W0 := ⟨_, rfl⟩
   have hz : W0.heap.size = wr.heap.size + 2 := by rw [← hW0]; simp
   rw [hW0] at BS BD hqS ⊢
   clear hW0 hQ
   generalize wr.heap.size = S at *
   go_loopw [27] (fun i wr2 => ∃ (k : Nat) (L : List (Rat × Nat)) (v : Value), k ≤ ms.length ∧ i = .int .i64 k ∧ Below w.heap.size w wr2 ∧ Blk wr2 S [v] 38 ∧ Blk wr2 (S + 1) [.int .i64 0] 39 ∧ S + 2 ≤ wr2.heap.size ∧ Hid (SurdL wr2 (S + 2) v L) ∧ Hid (SV k (wth (ms.take k)) L)) (fun i _ => ms.length - (intOf i).toNat)
   case atStart => exact ⟨0, [], _, by omega, rfl, hqS, BS, BD, by omega, Lib.hid (SurdL.nil _ _), Lib.hid ⟨⟨fun c hc => by simp at hc, fun i hi => by simp at hi, List.Pairwise.nil, by simp⟩, trivial, fun k _ => rfl⟩⟩
   case round =>
    clear BS BD hqS hz
    obtain ⟨k, L, v, hk, rfl, hQ, BS, BD, hsz, HV, HM⟩ := hrel
    by_cases hlt : k < ms.length
    ·obtain ⟨b, o, ha, hb, hcc⟩ := HC.out k hlt
     subst ha
     have hmj := HW.out k hlt
     have HKK := Lib.hid (fun f L sv S D B h1 h2 h3 h4 h5 v w' hw' k1 k2 k3 k4 => HS.out k hlt f L sv S D B h1 h2 h3 h4 h5 v w' hw' k1 k2 k3 k4)
     generalize hmm : ms[k] = mm at *
     have cc : ∀ j u, (memC mm)[j]? = some u → wr.cell? ⟨b, o + k * 11 + j, none⟩ = some u := fun j u h => (hQ.cell (p := ⟨b, o + k * 11 + j, none⟩) hb).trans (hcc j u h)
     have c0 : wr.cell? ⟨b, o + k * 11, none⟩ = some (.int .i64 1) := cc 0 _ rfl
     have c1 : wr.cell? ⟨b, o + k * 11 + 1, none⟩ = some (.int .i64 0) := cc 1 _ rfl
     have c2 : wr.cell? ⟨b, o + k * 11 + 2, none⟩ = some (.int .i64 (-1)) := cc 2 _ rfl
     have c3 : wr.cell? ⟨b, o + k * 11 + 3, none⟩ = some (.string ⟨(rstr mm.f.x).toArray⟩) := cc 3 _ rfl
     have c4 : wr.cell? ⟨b, o + k * 11 + 4, none⟩ = some (.string ⟨(rstr mm.f.y).toArray⟩) := cc 4 _ rfl
     have c5 : wr.cell? ⟨b, o + k * 11 + 5, none⟩ = some (.string ⟨(rstr mm.f.z).toArray⟩) := cc 5 _ rfl
     have c6 : wr.cell? ⟨b, o + k * 11 + 6, none⟩ = some (.string ⟨(rstr mm.t.x).toArray⟩) := cc 6 _ rfl
     have c7 : wr.cell? ⟨b, o + k * 11 + 7, none⟩ = some (.string ⟨(rstr mm.t.y).toArray⟩) := cc 7 _ rfl
     have c8 : wr.cell? ⟨b, o + k * 11 + 8, none⟩ = some (.string ⟨(rstr mm.t.z).toArray⟩) := cc 8 _ rfl
     have c9 : wr.cell? ⟨b, o + k * 11 + 9, none⟩ = some (.int .i64 60) := cc 9 _ rfl
     have c10 : wr.cell? ⟨b, o + k * 11 + 10, none⟩ = some (.int .i64 180) := cc 10 _ rfl
     have HNEW : Hid (∀ M, SV (k + 1) (fun i => wth (ms.take k) i + wth [mm] i) M → SV (k + 1) (wth (ms.take (k + 1))) M) := Lib.hid (fun M h => h.congr (fun i _ => hmj i))
     have HJ : Hid (k + 1 ≤ ms.length) := Lib.hid hlt
     have lbr : b < wr.heap.size := by have := hQ.size; omega
     have hltz : (k : Int) < ms.length := by omega
     have hk0 : (0 : Int) ≤ k := by omega
     have lS := BS.lt
     have lD := BD.lt
     obtain ⟨a1, c1, rfl, -⟩ := HV.out.form
     clear HC HS HW HT hcc hmm hmj
     generalize hwk : wth (ms.take k) = fk at *
     generalize hwk1 : wth (ms.take (k + 1)) = fk1 at *
     unfold memC at *
     generalize rstr mm.f.x = X at *
     generalize rstr mm.f.y = Y at *
     generalize rstr mm.f.z = Z at *
     generalize rstr mm.t.x = X' at *
     generalize rstr mm.t.y = Y' at *
     generalize rstr mm.t.z = Z' at *
     generalize ms.length = n at *
     go_wp2_with fail
     have bS2 := BS.alloc (.cells #[.int .i64 1, .int .i64 0, .int .i64 (-1), .string ⟨X.toArray⟩, .string ⟨Y.toArray⟩, .string ⟨Z.toArray⟩, .string ⟨X'.toArray⟩, .string ⟨Y'.toArray⟩, .string ⟨Z'.toArray⟩, .int .i64 60, .int .i64 180] 33)
     have bD2 := BD.alloc (.cells #[.int .i64 1, .int .i64 0, .int .i64 (-1), .string ⟨X.toArray⟩, .string ⟨Y.toArray⟩, .string ⟨Z.toArray⟩, .string ⟨X'.toArray⟩, .string ⟨Y'.toArray⟩, .string ⟨Z'.toArray⟩, .int .i64 60, .int .i64 180] 33)
     have hB2 : Below w.heap.size w (wr.alloc (.cells #[.int .i64 1, .int .i64 0, .int .i64 (-1), .string ⟨X.toArray⟩, .string ⟨Y.toArray⟩, .string ⟨Z.toArray⟩, .string ⟨X'.toArray⟩, .string ⟨Y'.toArray⟩, .string ⟨Z'.toArray⟩, .int .i64 60, .int .i64 180] 33)) := hQ.alloc hQ.size _
     refine (HKK.out fk L HM.out S (S + 1) (S + 2) (by omega) hwS (by omega) (by omega) (by omega) _ _ (hE.below hE.size hB2) bS2 bD2 (HV.out.keep ((Below.refl _ wr).alloc (Nat.le_refl _) _)) (by simp; omega)).mono ?_
     rintro e w3 ⟨rfl, hb3, v', M, bS3, bD3, hv3, hM3⟩
     have hQ3 : Below w.heap.size w w3 := hB2.trans hb3
     have hs3 : S + 2 ≤ w3.heap.size := by have := bD3.lt; omega
     have HV3 := Lib.hid hv3
     have HM3 := Lib.hid (HNEW.out M hM3)
     clear hv3 hM3 HNEW HM HV bS2 bD2 hB2 hb3 cc c0 c2 c3 c4 c5 c6 c7 c8 c9 c10 BS BD hQ
     go_wp2
     go_roundw
     case rel => exact ⟨k + 1, M, v', HJ.out, by go_num, hQ3, bS3, bD3, hs3, HV3, by rw [hwk1]; exact HM3⟩
     case measure => simp [intOf]; omega
    ·have hkn : k = ms.length := by omega
     subst hkn
     have s0 := BS.cell 0
     simp only [List.getElem?_cons_zero] at s0
     have lS := BS.lt
     obtain ⟨a1, c1, rfl, -⟩ := HV.out.form
     have HX : Hid (SV ms.length (wth ms) L) := Lib.hid (by have h := HM.out; rwa [HT.out] at h)
     have HY := Lib.hid (HV.out.low (B' := w.heap.size) (by omega))
     clear HC HS HW HM HV
     generalize L.length = nL at *
     go_wp2
     go_ret2
     exact ⟨_, _, rfl, hQ, HY.out, HX.out⟩
end Go.Proofs.YtedijdmenfcjlaaGreatDoor
namespace Go.Proofs
open Go.Shelf
def Tryz.reverseM_ren : Go.Shelf.Ren := ⟨fun | 35 => 7 | n => n, fun | 22 => 24 | 23 => 33 | 3 => 3 | 4 => 4 | 0 => 0 | n => n, fun | n => n⟩
theorem Tryz.reverseM : Go.Proofs.SlLaysE0.n35 Tryz.prog Tryz.reverseM_ren := {
 mixed := by kernel_rfl
 f35 := ⟨Tryz.f7.name, by decide, Tryz.func7.trans (congrArg some (by kernel_rfl))⟩
 t0 := Tryz.underlying0
 a0 := Tryz.isAgg0
 z0 := Tryz.sizeOf0
 v0 := Tryz.zeroValue0
 t3 := Tryz.underlying3
 a3 := Tryz.isAgg3
 z3 := Tryz.sizeOf3
 v3 := Tryz.zeroValue3
 t4 := Tryz.underlying4
 a4 := Tryz.isAgg4
 z4 := Tryz.sizeOf4
 v4 := Tryz.zeroValue4
 t22 := Tryz.underlying24
 a22 := Tryz.isAgg24
 z22 := Tryz.sizeOf24
 v22 := Tryz.zeroValue24 }
end Go.Proofs
namespace Go.Proofs.YtedijdmenfcjlaaGreatDoor
open Go.RowKit Kp Go.Sort
set_option maxRecDepth 100000 in
set_option maxHeartbeats 2000000 in
theorem true_Difference {m k : Mem} (gm : MG m) (gk : MG k) (w : World) (hE : Env w) :
  Calls Tryz.prog 12 #[.agg (memC m).toArray, .agg (memC k).toArray] w fun e w' => ∃ v M, e = .returned (.tuple #[v, .int .i64 0]) ∧ Q w w' ∧ SurdL w' w.heap.size v M ∧ SV 2 (fun i => wth [m] i - wth [k] i) M := by
 have C1 := Lib.hid (fun w hw => mem_Check gm w hw)
 have C2 := Lib.hid (fun w hw => mem_Check gk w hw)
 have L1 := Lib.hid (fun w hw => mem_Length gm w hw)
 have L2 := Lib.hid (fun w hw => mem_Length gk w hw)
 have HS := Lib.hid (fun B1 B2 v1 v2 w hw h1 h2 => surd_Sub_sv [m.c] [k.c] (sv_one gm) (sv_one gk) (by decide) B1 B2 v1 v2 w hw h1 h2)
 clear gm gk
 unfold memC at *
 generalize wth [m] = f1 at *
 generalize wth [k] = f2 at *
 generalize rstr m.f.x = X at *
 generalize rstr m.f.y = Y at *
 generalize rstr m.f.z = Z at *
 generalize rstr m.t.x = X' at *
 generalize rstr m.t.y = Y' at *
 generalize rstr m.t.z = Z' at *
 generalize rstr k.f.x = X1 at *
 generalize rstr k.f.y = Y1 at *
 generalize rstr k.f.z = Z1 at *
 generalize rstr k.t.x = X1' at *
 generalize rstr k.t.y = Y1' at *
 generalize rstr k.t.z = Z1' at *
 go_enter Tryz.func12, Tryz.ntmps12
 have hQ0 := Q.refl w
 go_wp2_with fail
 refine (C1.out _ (hE.ofQ bt)).mono ?_
 rintro e w1 ⟨rfl, hq1⟩
 have hs1 : Q w w1 := Q.trans bt hq1
 have hQ1 : Q w w1 := Q.trans hQ0 hs1
 have P1 := ((Blk.new w [.int .i64 1, .int .i64 0, .int .i64 (-1), .string ⟨X.toArray⟩, .string ⟨Y.toArray⟩, .string ⟨Z.toArray⟩, .string ⟨X'.toArray⟩, .string ⟨Y'.toArray⟩, .string ⟨Z'.toArray⟩, .int .i64 60, .int .i64 180] 33).alloc (.cells #[.int .i64 1, .int .i64 0, .int .i64 (-1), .string ⟨X1.toArray⟩, .string ⟨Y1.toArray⟩, .string ⟨Z1.toArray⟩, .string ⟨X1'.toArray⟩, .string ⟨Y1'.toArray⟩, .string ⟨Z1'.toArray⟩, .int .i64 60, .int .i64 180] 33)).keep hq1 (by simp; omega)
 have P2 := (Blk.new1 w (.cells #[.int .i64 1, .int .i64 0, .int .i64 (-1), .string ⟨X.toArray⟩, .string ⟨Y.toArray⟩, .string ⟨Z.toArray⟩, .string ⟨X'.toArray⟩, .string ⟨Y'.toArray⟩, .string ⟨Z'.toArray⟩, .int .i64 60, .int .i64 180] 33) [.int .i64 1, .int .i64 0, .int .i64 (-1), .string ⟨X1.toArray⟩, .string ⟨Y1.toArray⟩, .string ⟨Z1.toArray⟩, .string ⟨X1'.toArray⟩, .string ⟨Y1'.toArray⟩, .string ⟨Z1'.toArray⟩, .int .i64 60, .int .i64 180] 33).keep hq1 (by simp)
 replace c0 := P1.cell 0
 replace c1 := P1.cell 1
 replace c2 := P1.cell 2
 replace c3 := P1.cell 3
 replace c4 := P1.cell 4
 replace c5 := P1.cell 5
 replace c6 := P1.cell 6
 replace c7 := P1.cell 7
 replace c8 := P1.cell 8
 replace c9 := P1.cell 9
 replace c10 := P1.cell 10
 simp only [List.getElem?_cons_zero, List.getElem?_cons_succ] at c0 c1 c2 c3 c4 c5 c6 c7 c8 c9 c10
 replace lP1 := P1.lt
 replace d0 := P2.cell 0
 replace d1 := P2.cell 1
 replace d2 := P2.cell 2
 replace d3 := P2.cell 3
 replace d4 := P2.cell 4
 replace d5 := P2.cell 5
 replace d6 := P2.cell 6
 replace d7 := P2.cell 7
 replace d8 := P2.cell 8
 replace d9 := P2.cell 9
 replace d10 := P2.cell 10
 simp only [List.getElem?_cons_zero, List.getElem?_cons_succ] at d0 d1 d2 d3 d4 d5 d6 d7 d8 d9 d10
 replace lP2 := P2.lt
 go_wp2_with fail
 refine (C2.out _ (hE.ofQ bt)).mono ?_
 rintro e w2 ⟨rfl, hq2⟩
 have hs2 : Q w1 w2 := Q.trans bt hq2
 have hQ2 : Q w w2 := Q.trans hQ1 hs2
 replace P1 := P1.keep hs2 P1.lt
 replace c0 := P1.cell 0
 replace c1 := P1.cell 1
 replace c2 := P1.cell 2
 replace c3 := P1.cell 3
 replace c4 := P1.cell 4
 replace c5 := P1.cell 5
 replace c6 := P1.cell 6
 replace c7 := P1.cell 7
 replace c8 := P1.cell 8
 replace c9 := P1.cell 9
 replace c10 := P1.cell 10
 simp only [List.getElem?_cons_zero, List.getElem?_cons_succ] at c0 c1 c2 c3 c4 c5 c6 c7 c8 c9 c10
 replace lP1 := P1.lt
 replace P2 := P2.keep hs2 P2.lt
 replace d0 := P2.cell 0
 replace d1 := P2.cell 1
 replace d2 := P2.cell 2
 replace d3 := P2.cell 3
 replace d4 := P2.cell 4
 replace d5 := P2.cell 5
 replace d6 := P2.cell 6
 replace d7 := P2.cell 7
 replace d8 := P2.cell 8
 replace d9 := P2.cell 9
 replace d10 := P2.cell 10
 simp only [List.getElem?_cons_zero, List.getElem?_cons_succ] at d0 d1 d2 d3 d4 d5 d6 d7 d8 d9 d10
 replace lP2 := P2.lt
 go_wp2_with fail
 refine (L1.out _ (hE.ofQ bt)).mono ?_
 rintro e w3 ⟨v1, rfl, hq3, l1⟩
 have hs3 : Q w2 w3 := Q.trans bt hq3
 have hQ3 : Q w w3 := Q.trans hQ2 hs3
 replace P1 := P1.keep hs3 P1.lt
 replace c0 := P1.cell 0
 replace c1 := P1.cell 1
 replace c2 := P1.cell 2
 replace c3 := P1.cell 3
 replace c4 := P1.cell 4
 replace c5 := P1.cell 5
 replace c6 := P1.cell 6
 replace c7 := P1.cell 7
 replace c8 := P1.cell 8
 replace c9 := P1.cell 9
 replace c10 := P1.cell 10
 simp only [List.getElem?_cons_zero, List.getElem?_cons_succ] at c0 c1 c2 c3 c4 c5 c6 c7 c8 c9 c10
 replace lP1 := P1.lt
 replace P2 := P2.keep hs3 P2.lt
 replace d0 := P2.cell 0
 replace d1 := P2.cell 1
 replace d2 := P2.cell 2
 replace d3 := P2.cell 3
 replace d4 := P2.cell 4
 replace d5 := P2.cell 5
 replace d6 := P2.cell 6
 replace d7 := P2.cell 7
 replace d8 := P2.cell 8
 replace d9 := P2.cell 9
 replace d10 := P2.cell 10
 simp only [List.getElem?_cons_zero, List.getElem?_cons_succ] at d0 d1 d2 d3 d4 d5 d6 d7 d8 d9 d10
 replace lP2 := P2.lt
 go_wp2_with fail
 refine (L2.out _ (hE.ofQ bt)).mono ?_
 rintro e w4 ⟨v2, rfl, hq4, l2⟩
 have hs4 : Q w3 w4 := Q.trans bt hq4
 have hQ4 : Q w w4 := Q.trans hQ3 hs4
 replace l1 := SurdL.keep l1 hs4
 replace P1 := P1.keep hs4 P1.lt
 replace c0 := P1.cell 0
 replace c1 := P1.cell 1
 replace c2 := P1.cell 2
 replace c3 := P1.cell 3
 replace c4 := P1.cell 4
 replace c5 := P1.cell 5
 replace c6 := P1.cell 6
 replace c7 := P1.cell 7
 replace c8 := P1.cell 8
 replace c9 := P1.cell 9
 replace c10 := P1.cell 10
 simp only [List.getElem?_cons_zero, List.getElem?_cons_succ] at c0 c1 c2 c3 c4 c5 c6 c7 c8 c9 c10
 replace lP1 := P1.lt
 replace P2 := P2.keep hs4 P2.lt
 replace d0 := P2.cell 0
 replace d1 := P2.cell 1
 replace d2 := P2.cell 2
 replace d3 := P2.cell 3
 replace d4 := P2.cell 4
 replace d5 := P2.cell 5
 replace d6 := P2.cell 6
 replace d7 := P2.cell 7
 replace d8 := P2.cell 8
 replace d9 := P2.cell 9
 replace d10 := P2.cell 10
 simp only [List.getElem?_cons_zero, List.getElem?_cons_succ] at d0 d1 d2 d3 d4 d5 d6 d7 d8 d9 d10
 replace lP2 := P2.lt
 go_wp2_with fail
 refine (HS.out _ _ _ _ _ (hE.q hQ4) l1 l2).mono ?_
 rintro e w5 ⟨v3, M, rfl, hq5, l3, hM⟩
 have hs5 : Q w4 w5 := Q.trans bt hq5
 have hQ5 : Q w w5 := Q.trans hQ4 hs5
 replace l1 := SurdL.keep l1 hs5
 replace P1 := P1.keep hs5 P1.lt
 replace c0 := P1.cell 0
 replace c1 := P1.cell 1
 replace c2 := P1.cell 2
 replace c3 := P1.cell 3
 replace c4 := P1.cell 4
 replace c5 := P1.cell 5
 replace c6 := P1.cell 6
 replace c7 := P1.cell 7
 replace c8 := P1.cell 8
 replace c9 := P1.cell 9
 replace c10 := P1.cell 10
 simp only [List.getElem?_cons_zero, List.getElem?_cons_succ] at c0 c1 c2 c3 c4 c5 c6 c7 c8 c9 c10
 replace lP1 := P1.lt
 replace P2 := P2.keep hs5 P2.lt
 replace d0 := P2.cell 0
 replace d1 := P2.cell 1
 replace d2 := P2.cell 2
 replace d3 := P2.cell 3
 replace d4 := P2.cell 4
 replace d5 := P2.cell 5
 replace d6 := P2.cell 6
 replace d7 := P2.cell 7
 replace d8 := P2.cell 8
 replace d9 := P2.cell 9
 replace d10 := P2.cell 10
 simp only [List.getElem?_cons_zero, List.getElem?_cons_succ] at d0 d1 d2 d3 d4 d5 d6 d7 d8 d9 d10
 replace lP2 := P2.lt
 go_wp2
 go_ret2
 exact ⟨_, _, rfl, hQ5, l3.low hQ4.size, hM⟩
theorem flat_get {α : Type} (f : α → List Value) (n : Nat) (hf : ∀ x, (f x).length = n) : ∀ (l : List α) (i : Nat) (h : i < l.length) (j : Nat), j < n → (l.flatMap f)[i * n + j]? = (f l[i])[j]?
 | [], i, h, _, _ => absurd h (Nat.not_lt_zero _)
 | x :: l, 0, _, j, hj => by
  rw [List.flatMap_cons, Nat.zero_mul, Nat.zero_add, List.getElem?_append_left (by rw [hf]; exact hj)]; rfl
 | x :: l, i + 1, h, j, hj => by
  rw [List.flatMap_cons, List.getElem?_append_right (by rw [hf, Nat.succ_mul]; omega), hf, show (i + 1) * n + j - n = i * n + j by rw [Nat.succ_mul]; omega]
  exact flat_get f n hf l i (by simpa using h) j hj
theorem flat_len {α : Type} (f : α → List Value) (n : Nat) (hf : ∀ x, (f x).length = n) : ∀ l : List α, (l.flatMap f).length = l.length * n
 | [] => by simp
 | x :: l => by rw [List.flatMap_cons, List.length_append, hf, flat_len f n hf l, List.length_cons, Nat.succ_mul]; omega
def memRow (ms : List Mem) : List Value := ms.flatMap memC
theorem memC_len (m : Mem) : (memC m).length = 11 := rfl
theorem memRow_len (ms : List Mem) : (memRow ms).length = ms.length * 11 := flat_len memC 11 memC_len ms
theorem memRow_get (ms : List Mem) (i : Nat) (h : i < ms.length) (j : Nat) (hj : j < 11) : (memRow ms)[i * 11 + j]? = (memC ms[i])[j]? := flat_get memC 11 memC_len ms i h j hj
theorem memRow_one (ms : List Mem) : ∀ u ∈ memRow ms, u.oneCell' = true := by
 intro u hu
 obtain ⟨m, _, hu⟩ := List.mem_flatMap.1 hu
 unfold memC at hu
 simp only [List.mem_cons, List.not_mem_nil, or_false] at hu
 rcases hu with rfl | rfl | rfl | rfl | rfl | rfl | rfl | rfl | rfl | rfl | rfl <;> rfl
theorem memC_lt {m : Mem} {j : Nat} {u : Value} (h : (memC m)[j]? = some u) : j < 11 := (List.getElem?_eq_some_iff.1 h).1
theorem infoMember : (Tryz.prog.info? 33).map (fun i => (i.zero, i.size, i.bytes)) = some (some (.agg #[.int .i64 0, .int .i64 0, .int .i64 0, .string ⟨#[]⟩, .string ⟨#[]⟩, .string ⟨#[]⟩, .string ⟨#[]⟩, .string ⟨#[]⟩, .string ⟨#[]⟩, .int .i64 0, .int .i64 0]), 11, 136) := by kernel_rfl
def MOwn (w : World) (B : Nat) (v : Value) (ms : List Mem) : Prop := w.ownsRow B 33 11 v ms.length (memRow ms)
theorem MOwn.sl {w : World} {B : Nat} {v : Value} {ms : List Mem} (h : MOwn w B v ms) : MSl w v ms := by
 have h0 := h
 rcases h.2 with ⟨rfl, hn⟩ | ⟨g, cap, cur, rfl, hg, hc, hnc, hcm, hsz, htk⟩
 ·exact ⟨none, 0, by rw [hn], fun i hi => by omega⟩
 ·refine ⟨_, cap, rfl, fun i hi => ⟨g, 0, rfl, (Array.getElem?_eq_some_iff.1 hc).1, fun j u hu => ?_⟩⟩
  have hj := memC_lt hu
  rw [Nat.zero_add, World.ownsRow.cellAt h0 (i * 11 + j) (by omega), memRow_get ms i hi j hj]
  exact hu
theorem MOwn.keep {w w' : World} {B : Nat} {v : Value} {ms : List Mem} (h : MOwn w B v ms) (hq : Q w w') : MOwn w' B v ms := ownsRow_keep h hq
theorem MSl.take {w : World} {a : Option Addr} {n cap : Nat} {ms : List Mem} (h : MSl w (.slice a n cap) ms) (k : Nat) (hk : k ≤ ms.length) (cap' : Nat) : MSl w (.slice a k cap') (ms.take k) := by
 obtain ⟨a', c', he, hc⟩ := h
 injection he with e1 e2 e3
 subst e1
 refine ⟨a, cap', by rw [List.length_take, Nat.min_eq_left hk], fun i hi => ?_⟩
 rw [List.length_take] at hi
 rw [List.getElem_take]
 exact hc i (by omega)
theorem MSl.drop {w : World} {b o n cap : Nat} {ms : List Mem} (h : MSl w (.slice (some ⟨b, o, none⟩) n cap) ms) (k : Nat) (hk : k ≤ ms.length) (a' : Option Addr) (ha : k < ms.length → a' = some ⟨b, o + k * 11, none⟩) (cap' : Nat) : MSl w (.slice a' (ms.length - k) cap') (ms.drop k) := by
 obtain ⟨a0, c', he, hc⟩ := h
 injection he with e1 e2 e3
 subst e1
 refine ⟨a', cap', by rw [List.length_drop], fun i hi => ?_⟩
 rw [List.length_drop] at hi
 rw [List.getElem_drop]
 obtain ⟨b', o', e, hb, hcc⟩ := hc (k + i) (by omega)
 injection e with e
 injection e with e1 e2
 subst e1 e2
 refine ⟨b, o + k * 11, ha (by omega), hb, fun j u hu => ?_⟩
 have := hcc j u hu
 rwa [show o + (k + i) * 11 + j = o + k * 11 + i * 11 + j by rw [Nat.add_mul]; omega] at this
theorem MSl.nil (w : World) (a : Option Addr) (cap : Nat) : MSl w (.slice a 0 cap) [] := ⟨a, cap, rfl, fun _ hi => absurd hi (Nat.not_lt_zero _)⟩
set_option maxHeartbeats 1000000 in
theorem clone_members (ms : List Mem) (hln : ms.length ≤ 1000) (v : Value) (w : World) (hl : MSl w v ms) :
  Calls Tryz.prog 6 #[v] w fun e w' => ∃ v', e = .returned v' ∧ Q w w' ∧ (MOwn w' w.heap.size v' ms ∨ (ms = [] ∧ ∃ a cap, v' = .slice a 0 cap)) := by
 obtain ⟨i0, hi, hz0, hz1, hz2⟩ := info_of infoMember
 obtain ⟨a, cap, rfl, hc⟩ := hl
 cases a with
 | none =>
  have he : ms = [] := by
   cases ms with
   | nil => rfl
   | cons s l => obtain ⟨b, o, e, _⟩ := hc 0 (by simp); cases e
  subst he
  clear hc
  have q : ∀ (w : World) (a : Option Addr) (n c n' c' : Nat), (binOp .eql 24 (.slice a n c) (.slice none n' c')).run Tryz.prog w = .ok (.bool a.isNone) w := fun w a n c n' c' => Lib.run_eql_slice_nil w _ _ a n c n' c' Tryz.underlying24
  go_enter Tryz.func6, Tryz.ntmps6
  go_wp2
  go_ret
  exact ⟨_, rfl, Below.refl _ _, .inr ⟨by trivial, _, _, rfl⟩⟩
 | some ad =>
  have hnews : ∀ j u, (memRow ms)[j]? = some u → w.cell? (ad.add j) = some u := fun j u hj => by
   have hlt : j < ms.length * 11 := by
    have := (List.getElem?_eq_some_iff.1 hj).1
    rwa [memRow_len] at this
   have hi : j / 11 < ms.length := Nat.div_lt_of_lt_mul (by omega)
   obtain ⟨b, o, e, _, hcc⟩ := hc (j / 11) hi
   simp only [Option.some.injEq] at e
   subst e
   rw [Addr.add_lit]
   have hm := Nat.mod_lt j (show 0 < 11 by decide)
   have h2 := memRow_get ms (j / 11) hi (j % 11) hm
   rw [show j / 11 * 11 + j % 11 = j by omega, hj] at h2
   have h3 := hcc (j % 11) u h2.symm
   rwa [show o + j / 11 * 11 + j % 11 = o + j by omega] at h3
  have HN := Lib.hid hnews
  clear hc hnews
  have q : ∀ (w : World) (a : Option Addr) (n c n' c' : Nat), (binOp .eql 24 (.slice a n c) (.slice none n' c')).run Tryz.prog w = .ok (.bool a.isNone) w := fun w a n c n' c' => Lib.run_eql_slice_nil w _ _ a n c n' c' Tryz.underlying24
  go_enter Tryz.func6, Tryz.ntmps6
  go_wp2_with (at_builtin; refine wpList_append_own _ rfl _ _ 24 rfl w.heap.size 33 i0 _ 11 136 Tryz.underlying24 hi hz0 hz1 hz2 rfl (by decide) _ _ _ rfl (World.ownsRow_made w #[] 0 (Nat.le_refl _) (Nat.zero_le _) (by simp)) ad ms.length cap (memRow ms) rfl ?qc1 ?qc2 ?qc3 ?qc4 ?qc5 ?qc6 ?_)
  case qc1 => exact memRow_len ms
  case qc2 =>
   intro j u hj
   exact Lib.cell?_alloc_some _ (HN.out j u hj)
  case qc3 => exact memRow_one ms
  case qc4 => unfold maxLen; omega
  case qc5 => omega
  case qc6 => simp
  intro v' w1 hown hgrow hnil
  go_wp2
  go_ret
  refine ⟨v', rfl, ?_, .inl (by unfold MOwn; simpa using hown)⟩
  exact ((Below.refl _ w).alloc (Nat.le_refl _) _).grown hgrow (by simp) (by intro k hk; simp [Value.ownBlock] at hk; omega)
instance : Inhabited Mem := ⟨⟨⟨0, 0, 0⟩, ⟨0, 0, 0⟩⟩⟩
theorem below_putRowM {B : Nat} (w : World) (n g : Nat) (d : Array Mem) (hg : B ≤ g) : Below B w (putRowK memC 11 (Sort.ahead w n) g 0 d) :=
 ⟨rfl, rfl, rfl, by simp [putRowK, putRow, mapBlock, Sort.ahead], fun k hk => by
  have : ¬ g = k := by omega
  simp [putRowK, putRow, mapBlock, Sort.ahead, Array.getElem?_modify, this]⟩
theorem holdsM_of {w : World} {B g cap : Nat} {ms : List Mem} (h : MOwn w B (.slice (some ⟨g, 0, none⟩) ms.length cap) ms) : HoldsK memC 11 w g 0 ms.toArray := by
 intro t ht
 rw [size_flatK] at ht
 have ht' : t < ms.length * 11 := by simpa using ht
 rw [get_flatK _ _ _ _ ht]
 refine ⟨?_, World.ownsRow.frozenAt h _⟩
 have hi : t / 11 < ms.length := Nat.div_lt_of_lt_mul (by omega)
 have hm := Nat.mod_lt t (show 0 < 11 by decide)
 have h2 := memRow_get ms (t / 11) hi (t % 11) hm
 rw [show t / 11 * 11 + t % 11 = t by omega] at h2
 have h3 := World.ownsRow.cellAt h t ht'
 have e : ms.toArray[t / 11]! = ms[t / 11] := by
  rw [getElem!_pos _ _ (by simpa using hi)]; simp
 rw [e, Nat.zero_add, h3, h2, List.getElem?_eq_getElem (by rw [memC_len]; exact hm), getElem!_pos _ _ (by rw [memC_len]; exact hm)]
 rfl
theorem msl_of {w : World} {g cap : Nat} {ms : List Mem} (hg : g < w.heap.size) (h : HoldsK memC 11 w g 0 ms.toArray) : MSl w (.slice (some ⟨g, 0, none⟩) ms.length cap) ms := by
 refine ⟨_, cap, rfl, fun i hi => ⟨g, 0, rfl, hg, fun j u hu => ?_⟩⟩
 have hj := memC_lt hu
 have a := (h.cell (i := i) (c := j) (by simpa using hi) hj).1
 have e : ms.toArray[i]! = ms[i] := by rw [getElem!_pos _ _ (by simpa using hi)]; simp
 rw [e] at a
 rw [a]
 rw [List.getElem?_eq_getElem (by rw [memC_len]; exact hj)] at hu
 rw [getElem!_pos _ _ (by rw [memC_len]; exact hj)]
 exact hu
theorem reverse_members (ms : List Mem) (hln : ms.length ≤ 1000) (B : Nat) (v : Value) (w : World) (hl : MOwn w B v ms ∨ (ms = [] ∧ ∃ a cap, v = .slice a 0 cap)) :
  Calls Tryz.prog 7 #[v] w fun e w' => e = .returned (.tuple #[]) ∧ Below B w w' ∧ MSl w' v ms.reverse := by
 have none' : ∀ a cap, ms = [] → Calls Tryz.prog 7 #[.slice a 0 cap] w fun e w' => e = .returned (.tuple #[]) ∧ Below B w w' ∧ MSl w' (.slice a 0 cap) ms.reverse := fun a cap he => by
  subst he
  refine (AnyQ.slices_Reverse_empty Tryz.reverseM a cap w).mono ?_
  rintro e w' ⟨rfl, rfl⟩
  exact ⟨rfl, Below.refl _ _, MSl.nil _ _ _⟩
 rcases hl with hl | ⟨he, a, cap, rfl⟩
 ·rcases hl.2 with ⟨rfl, hn⟩ | ⟨g, cap, cur, rfl, hg, hc, hnc, hcm, hsz, htk⟩
  ·exact none' none 0 (List.eq_nil_of_length_eq_zero hn)
  ·have hH := holdsM_of hl
   have hgl := (Array.getElem?_eq_some_iff.1 hc).1
   have hr := AnyQ.slices_Reverse Tryz.reverseM 11 Tryz.isAgg33 Tryz.sizeOf33 memC (fun _ => rfl) (fun x v hv => memRow_one [x] v (by unfold memRow; simpa using hv)) g 0 cap ms.toArray w hH (by simp; omega)
   rw [List.size_toArray] at hr
   refine hr.mono ?_
   rintro e w' ⟨rfl, n, rfl⟩
   refine ⟨rfl, below_putRowM w n g _ hg, ?_⟩
   have h2 : HoldsK memC 11 (putRowK memC 11 (Sort.ahead w n) g 0 ms.toArray.reverse) g 0 ms.toArray.reverse := holdsK_putRowK memC 11 (Sort.ahead w n) g 0 ms.toArray ms.toArray.reverse (show HoldsK memC 11 (Sort.ahead w n) g 0 ms.toArray from hH) (by simp)
   rw [show ms.toArray.reverse = ms.reverse.toArray by simp] at h2 ⊢
   have := msl_of (g := g) (cap := cap) (by simp [putRowK, putRow, mapBlock, Sort.ahead]; exact hgl) h2
   rw [List.length_reverse] at this
   exact this
 ·exact none' a cap he
structure Sml where
 a : Int
 b : Int
 c : Int
 d : Int
 e : Int
 f : Int
structure Sml.ok (s : Sml) : Prop where
 ha : I8 s.a
 hb : I8 s.b
 hc : I8 s.c
 hd : I8 s.d
 he : I8 s.e
 hf : I8 s.f
def smC (s : Sml) : List Value := [.int .i8 s.a, .int .i8 s.b, .int .i8 s.c, .int .i8 s.d, .int .i8 s.e, .int .i8 s.f]
def Sml.mem (s : Sml) : Mem := ⟨half s.a s.b s.c, half (toX s.a s.b s.c s.d s.e s.f) s.e s.f⟩
def SmSl (w : World) (v : Value) (l : List Sml) : Prop := ∃ a cap, v = .slice a l.length cap ∧ ∀ i (h : i < l.length), ∃ b o, a = some ⟨b, o, none⟩ ∧ b < w.heap.size ∧ ∀ j u, (smC l[i])[j]? = some u → w.cell? ⟨b, o + i * 6 + j, none⟩ = some u
theorem sml_good {s : Sml} (h : s.ok) : MG s.mem := by
 obtain ⟨a, b, c, d, e, f⟩ := s
 obtain ⟨ha, hb, hc, hd, he, hf⟩ := h
 simp only at ha hb hc hd he hf
 have en := ends_of ha hb hc hd he hf
 have b1 : B3 3 (half a b c) := half_b3 (by have := i8_abs ha; omega) (by have := i8_abs hb; omega) (by have := i8_abs hc; omega)
 have b2 : B3 3 (half (toX a b c d e f) e f) := half_b3 (by have := i8_abs en.hd; omega) (by have := i8_abs he; omega) (by have := i8_abs hf; omega)
 have esub := half_sub a b c (toX a b c d e f) e f
 have bsub : B3 3 ((half (toX a b c d e f) e f).sub (half a b c)) := by
  rw [esub]
  exact half_b3 (by have := i8_abs ha; have := i8_abs en.hd; omega) (by have := i8_abs hb; have := i8_abs he; omega) (by have := i8_abs hc; have := i8_abs hf; omega)
 have bsq : Bd 6 ((half (toX a b c d e f) e f).sub (half a b c)).sq := by
  rw [esub]
  exact half_sq_bd (by have := ha.1; have := ha.2; have := en.hd.1; have := en.hd.2; omega) (by have := hb.1; have := hb.2; have := he.1; have := he.2; omega) (by have := hc.1; have := hc.2; have := hf.1; have := hf.2; omega)
 have y1 := sq_le (a := toX a b c d e f - a) (by have := ha.1; have := ha.2; have := en.hd.1; have := en.hd.2; omega)
 have y2 := sq_le (a := e - b) (by have := hb.1; have := hb.2; have := he.1; have := he.2; omega)
 have y3 := sq_le (a := f - c) (by have := hc.1; have := hc.2; have := hf.1; have := hf.2; omega)
 obtain ⟨N, hN, hN2⟩ : ∃ N : Nat, ((half (toX a b c d e f) e f).sub (half a b c)).sq = Rat.divInt (N : Int) ((4 : Nat) : Int) ∧ N ≤ 195075 := by
  refine ⟨((toX a b c d e f - a) * (toX a b c d e f - a) + (e - b) * (e - b) + (f - c) * (f - c)).toNat, ?_, by omega⟩
  rw [esub, half_sq, Int.toNat_of_nonneg (by omega)]
 have hpos := ends_pos en
 exact ⟨b1, b2, en.ne, bsub, bsq, hpos, GC.base bsq hpos hN hN2⟩
theorem sml_of {s : Sml} (h : s.ok) (w : World) (hE : Env w) : Calls Tryz.prog 5 #[.agg (smC s).toArray] w fun e' w' => e' = .returned (.agg (memC s.mem).toArray) ∧ Q w w' :=
 law_of s.a s.b s.c s.d s.e s.f h.ha h.hb h.hc h.hd h.he h.hf w hE
end Go.Proofs.YtedijdmenfcjlaaGreatDoor
namespace Go.Proofs.YtedijdmenfcjlaaGreatDoor
open Go.RowKit Kp
theorem max_six (w : World) : (Builtin.max_ #[39, 39, 39, 39, 39, 39] 39 #[.int .i64 0, .int .i64 0, .int .i64 0, .int .i64 0, .int .i64 0, .int .i64 0]).run Tryz.prog w = .ok (.int .i64 0) w := by kernel_rfl
theorem row_cases11 {w : World} {base n : Nat} {t : TypeId} {v : Value} {xs : List Value} (h : w.ownsRow base t 11 v n xs) : (v = .slice none 0 0 ∧ n = 0) ∨ ∃ g cap, v = .slice (some ⟨g, 0, none⟩) n cap := by
 rcases h.2 with ⟨hv, h0⟩ | ⟨g, cap, cur, hv, -⟩
 ·exact .inl ⟨hv, h0⟩
 ·exact .inr ⟨g, cap, hv⟩
theorem cells_at {w : World} {B g cap : Nat} {ms : List Mem} (h : MOwn w B (.slice (some ⟨g, 0, none⟩) ms.length cap) ms) (i : Nat) (hi : i < ms.length) : ∀ j u, (memC ms[i])[j]? = some u → w.cell? ⟨g, i * 11 + j, none⟩ = some u := fun j u hu => by
 rw [World.ownsRow.cellAt h (i * 11 + j) (by have := memC_lt hu; omega), memRow_get ms i hi j (memC_lt hu)]
 exact hu
set_option maxRecDepth 100000 in
set_option maxHeartbeats 4000000 in
theorem sums32_law (l : List Sml) (hl : ∀ s ∈ l, s.ok) (hlen : l.length < 2 ^ 62) (n : Nat) (hn : n ≤ 255) (v : Value) (w : World) (hE : Env w) (hv : SmSl w v l) :
  Calls Tryz.prog 3 #[v, .int .u8 n] w fun e w' => e = .returned (.bool true) ∧ Q w w' := by
 obtain ⟨a, cap, rfl, hc⟩ := hv
 obtain ⟨i0, hi, hz0, hz1, hz2⟩ := info_of infoMember
 have HI := Lib.hid hi
 have HZ := Lib.hid hz0
 have HS := Lib.hid hz1
 have HBy := Lib.hid hz2
 clear hi hz0 hz1 hz2
 have HC := Lib.hid hc
 have HL := Lib.hid hl
 clear hc hl
 by_cases h5 : l.length ≤ 5
 ·have h5z : (l.length : Int) ≤ 5 := by omega
  obtain ⟨ms, hms⟩ : ∃ ms, l.map Sml.mem = ms := ⟨_, rfl⟩
  have hml : ms.length = l.length := by rw [← hms, List.length_map]
  have hg : ∀ m ∈ ms, MG m := fun m hm => by
   rw [← hms] at hm
   obtain ⟨s, hs, rfl⟩ := List.mem_map.1 hm
   exact sml_good (HL.out s hs)
  have HOF := Lib.hid (fun k (hk : k < l.length) w hw => sml_of (HL.out _ (List.getElem_mem hk)) w hw)
  have HNX : Hid (∀ k (hk : k < l.length), memRow (ms.take (k + 1)) = memRow (ms.take k) ++ memC l[k].mem ∧ (ms.take k).length = k ∧ (ms.take (k + 1)).length = k + 1) := Lib.hid (fun k hk => by
   have hk' : k < ms.length := by omega
   refine ⟨?_, by rw [List.length_take]; omega, by rw [List.length_take]; omega⟩
   rw [List.take_succ_eq_append_getElem hk']
   unfold memRow
   rw [List.flatMap_append]
   subst hms
   simp)
  have HG := Lib.hid hg
  have HML := Lib.hid hml
  clear hms hg hml HL
  go_enter Tryz.func3, Tryz.ntmps3
  go_wp2
  go_loopw [5, 33] (fun o i wr => ∃ k : Nat, k ≤ l.length ∧ i = .int .i64 k ∧ Q w wr ∧ Hid (wr.ownsRow w.heap.size 33 11 o k (memRow (ms.take k)))) (fun _ i _ => l.length - (intOf i).toNat)
  case atStart => exact ⟨0, by omega, rfl, Q.refl _, Lib.hid (World.ownsRow_nil _ _ _ _)⟩
  case round =>
   obtain ⟨k, hk, rfl, hQ, HR⟩ := hrel
   by_cases hlt : k < l.length
   ·obtain ⟨b, o1, ha, hb, hcc⟩ := HC.out k hlt
    subst ha
    have HT := Lib.hid (HNX.out k hlt)
    have HO := Lib.hid (fun w hw => HOF.out k hlt w hw)
    have HK : Hid (k + 1 ≤ l.length) := Lib.hid hlt
    have lbr : b < wr.heap.size := Nat.lt_of_lt_of_le hb hQ.size
    have hltz : (k : Int) < l.length := by omega
    have hk0 : (0 : Int) ≤ k := by omega
    generalize l[k] = s at *
    have cc : ∀ j u, (smC s)[j]? = some u → wr.cell? ⟨b, o1 + k * 6 + j, none⟩ = some u := fun j u h => (hQ.cell (p := ⟨b, o1 + k * 6 + j, none⟩) hb).trans (hcc j u h)
    have c0 : wr.cell? ⟨b, o1 + k * 6, none⟩ = some (.int .i8 s.a) := cc 0 _ rfl
    have c1 : wr.cell? ⟨b, o1 + k * 6 + 1, none⟩ = some (.int .i8 s.b) := cc 1 _ rfl
    have c2 : wr.cell? ⟨b, o1 + k * 6 + 2, none⟩ = some (.int .i8 s.c) := cc 2 _ rfl
    have c3 : wr.cell? ⟨b, o1 + k * 6 + 3, none⟩ = some (.int .i8 s.d) := cc 3 _ rfl
    have c4 : wr.cell? ⟨b, o1 + k * 6 + 4, none⟩ = some (.int .i8 s.e) := cc 4 _ rfl
    have c5 : wr.cell? ⟨b, o1 + k * 6 + 5, none⟩ = some (.int .i8 s.f) := cc 5 _ rfl
    clear HC HOF HNX hcc cc HG HML
    unfold memC smC at *
    generalize s.a = sa at *
    generalize s.b = sb at *
    generalize s.c = sc at *
    generalize s.d = sd at *
    generalize s.e = se at *
    generalize s.f = sf at *
    generalize rstr s.mem.f.x = X at *
    generalize rstr s.mem.f.y = Y at *
    generalize rstr s.mem.f.z = Z at *
    generalize rstr s.mem.t.x = X' at *
    generalize rstr s.mem.t.y = Y' at *
    generalize rstr s.mem.t.z = Z' at *
    generalize hrk1 : memRow (ms.take (k + 1)) = rk1 at *
    generalize memRow (ms.take k) = rk at *
    have hq0 := hQ.alloc hQ.size (Obj.cells #[.int .i8 sa, .int .i8 sb, .int .i8 sc, .int .i8 sd, .int .i8 se, .int .i8 sf] 28)
    rcases row_cases11 HR.out with ⟨hv0, -⟩ | ⟨g9, gc9, hv9⟩
    ·subst hv0
     go_wp2_with fail
     refine (HO.out _ (hE.q hq0)).mono ?_
     rintro e w3 ⟨rfl, hq3⟩
     have hQ3 := Q.trans hq0 hq3
     have hown := ownsRow_keep (HR.out.alloc (Obj.cells #[.int .i8 sa, .int .i8 sb, .int .i8 sc, .int .i8 sd, .int .i8 se, .int .i8 sf] 28)) hq3
     have hnew := Blk.new w3 [.int .i64 1, .int .i64 0, .int .i64 (-1), .string ⟨X.toArray⟩, .string ⟨Y.toArray⟩, .string ⟨Z.toArray⟩, .string ⟨X'.toArray⟩, .string ⟨Y'.toArray⟩, .string ⟨Z'.toArray⟩, .int .i64 60, .int .i64 180] 33
     have hsz3 : w.heap.size ≤ w3.heap.size := hQ3.size
     have hown2 := hown.alloc (Obj.cells #[.int .i64 1, .int .i64 0, .int .i64 (-1), .string ⟨X.toArray⟩, .string ⟨Y.toArray⟩, .string ⟨Z.toArray⟩, .string ⟨X'.toArray⟩, .string ⟨Y'.toArray⟩, .string ⟨Z'.toArray⟩, .int .i64 60, .int .i64 180] 33)
     clear c0 c1 c2 c3 c4 c5 hq3 hq0 hown
     go_wp2_with (at_builtin; refine wpList_append_lies _ (by rfl) (.tmp 37) (.tmp 40) 24 (by rfl) w.heap.size 33 i0 _ 11 136 Tryz.underlying24 HI.out HZ.out HS.out HBy.out rfl (by decide) (.slice none 0 0) k rk (by rfl) hown2 ⟨w3.heap.size, 0, none⟩ 1 1 [.int .i64 1, .int .i64 0, .int .i64 (-1), .string ⟨X.toArray⟩, .string ⟨Y.toArray⟩, .string ⟨Z.toArray⟩, .string ⟨X'.toArray⟩, .string ⟨Y'.toArray⟩, .string ⟨Z'.toArray⟩, .int .i64 60, .int .i64 180] (by rfl) (by rfl) (World.news_of_block (cs := #[.int .i64 1, .int .i64 0, .int .i64 (-1), .string ⟨X.toArray⟩, .string ⟨Y.toArray⟩, .string ⟨Z.toArray⟩, .string ⟨X'.toArray⟩, .string ⟨Y'.toArray⟩, .string ⟨Z'.toArray⟩, .int .i64 60, .int .i64 180]) (t := 33) (fr := (0, 0)) hnew) (by simp [Value.oneCell']) (by decide) (by unfold maxLen; omega) (by omega) (by simp; omega) (w3.heap.size + 1) (by simp) ?_; intro g4 cap4 w5 hown4 hgrow4 hat4 hlt4)
     go_roundw
     case rel => exact ⟨k + 1, HK.out, by go_num, (hQ3.alloc hQ3.size _).grown hgrow4 (by simp; omega) (fun q hq => (hown2.lt q hq).1), Lib.hid (by rw [hrk1, HT.out.1]; exact hown4)⟩
     case measure => simp [intOf]; omega
    ·subst hv9
     go_wp2_with fail
     refine (HO.out _ (hE.q hq0)).mono ?_
     rintro e w3 ⟨rfl, hq3⟩
     have hQ3 := Q.trans hq0 hq3
     have hown := ownsRow_keep (HR.out.alloc (Obj.cells #[.int .i8 sa, .int .i8 sb, .int .i8 sc, .int .i8 sd, .int .i8 se, .int .i8 sf] 28)) hq3
     have hnew := Blk.new w3 [.int .i64 1, .int .i64 0, .int .i64 (-1), .string ⟨X.toArray⟩, .string ⟨Y.toArray⟩, .string ⟨Z.toArray⟩, .string ⟨X'.toArray⟩, .string ⟨Y'.toArray⟩, .string ⟨Z'.toArray⟩, .int .i64 60, .int .i64 180] 33
     have hsz3 : w.heap.size ≤ w3.heap.size := hQ3.size
     have hown2 := hown.alloc (Obj.cells #[.int .i64 1, .int .i64 0, .int .i64 (-1), .string ⟨X.toArray⟩, .string ⟨Y.toArray⟩, .string ⟨Z.toArray⟩, .string ⟨X'.toArray⟩, .string ⟨Y'.toArray⟩, .string ⟨Z'.toArray⟩, .int .i64 60, .int .i64 180] 33)
     clear c0 c1 c2 c3 c4 c5 hq3 hq0 hown
     go_wp2_with (at_builtin; refine wpList_append_lies _ (by rfl) (.tmp 37) (.tmp 40) 24 (by rfl) w.heap.size 33 i0 _ 11 136 Tryz.underlying24 HI.out HZ.out HS.out HBy.out rfl (by decide) (.slice (some ⟨g9, 0, none⟩) k gc9) k rk (by rfl) hown2 ⟨w3.heap.size, 0, none⟩ 1 1 [.int .i64 1, .int .i64 0, .int .i64 (-1), .string ⟨X.toArray⟩, .string ⟨Y.toArray⟩, .string ⟨Z.toArray⟩, .string ⟨X'.toArray⟩, .string ⟨Y'.toArray⟩, .string ⟨Z'.toArray⟩, .int .i64 60, .int .i64 180] (by rfl) (by rfl) (World.news_of_block (cs := #[.int .i64 1, .int .i64 0, .int .i64 (-1), .string ⟨X.toArray⟩, .string ⟨Y.toArray⟩, .string ⟨Z.toArray⟩, .string ⟨X'.toArray⟩, .string ⟨Y'.toArray⟩, .string ⟨Z'.toArray⟩, .int .i64 60, .int .i64 180]) (t := 33) (fr := (0, 0)) hnew) (by simp [Value.oneCell']) (by decide) (by unfold maxLen; omega) (by omega) (by simp; omega) (w3.heap.size + 1) (by simp) ?_; intro g4 cap4 w5 hown4 hgrow4 hat4 hlt4)
     go_roundw
     case rel => exact ⟨k + 1, HK.out, by go_num, (hQ3.alloc hQ3.size _).grown hgrow4 (by simp; omega) (fun q hq => (hown2.lt q hq).1), Lib.hid (by rw [hrk1, HT.out.1]; exact hown4)⟩
     case measure => simp [intOf]; omega
   ·have hkn : k = l.length := by omega
    subst hkn
    have HRW : Hid (MOwn wr w.heap.size u5 ms) := Lib.hid (by
     have h := HR.out
     have e := HML.out
     rw [List.take_of_length_le (by omega)] at h
     unfold MOwn
     rw [e]; exact h)
    clear HR HC HOF HNX HI HZ HS HBy
    have hml := HML.out
    have hln : ms.length ≤ 5 := by omega
    rw [← hml]
    rw [← hml] at h5z
    clear hml HML hlt hk h5
    have HS0 := Lib.hid (fun v w hw hv => true_Sum ms HG.out (by omega) v w hw hv)
    have HSR := Lib.hid (fun v w hw hv => true_Sum ms.reverse (fun m hm => HG.out m (List.mem_reverse.1 hm)) (by rw [List.length_reverse]; omega) v w hw hv)
    have HST := Lib.hid (fun k v w hw hv => true_Sum (ms.take k) (fun m hm => HG.out m (List.mem_of_mem_take hm)) (by rw [List.length_take]; omega) v w hw hv)
    have HSD := Lib.hid (fun k v w hw hv => true_Sum (ms.drop k) (fun m hm => HG.out m (List.mem_of_mem_drop hm)) (by rw [List.length_drop]; omega) v w hw hv)
    have ht : (n : Int).tmod ((ms.length : Int) + 1) = ((n % (ms.length + 1) : Nat) : Int) := by
     rw [Int.tmod_eq_emod_of_nonneg (by omega), show ((ms.length : Int) + 1) = ((ms.length + 1 : Nat) : Int) by omega]; exact (Int.natCast_emod _ _).symm
    have hk1 : n % (ms.length + 1) ≤ ms.length := by have := Nat.mod_lt n (show 0 < ms.length + 1 by omega); omega
    generalize n % (ms.length + 1) = k at *
    have HV0 := HRW
    rcases row_cases11 HRW.out with ⟨rfl, h0⟩ | ⟨g, gc, rfl⟩
    ·obtain rfl := List.eq_nil_of_length_eq_zero h0
     have hk0 : k = 0 := by simpa using hk1
     subst hk0
     clear HSR HST HSD HG HRW HV0 h0 hk1 h5z hln
     simp only [List.length_nil, Int.natCast_zero, Int.zero_add] at *
     have hmax := max_five
     have hz2 : ∀ i, 0 < i → wth [] i = wth [] i + wth [] i := fun i _ => by show (0 : Rat) = 0 + 0; grind
     go_wp2_with fail
     refine (clone_members [] (by decide) _ wr (MSl.nil _ _ _)).mono ?_
     rintro e w1 ⟨vb, rfl, hq1, hown1⟩
     go_wp2_with fail
     refine (reverse_members [] (by decide) wr.heap.size vb w1 (hown1.imp_right fun h => ⟨rfl, h.2⟩)).mono ?_
     rintro e w2 ⟨rfl, hb2, hsl⟩
     have hQW : Q w w2 := Q.trans hQ (Below.trans hq1 hb2)
     replace hE : Env w2 := hE.q hQW
     clear hq1 hown1 hb2 hQ
     have hQ0 := Q.refl w2
     go_wp2_with fail
     refine (HS0.out _ _ hE (MSl.nil _ _ _)).mono ?_
     rintro e y1 ⟨va, L0, rfl, hq1, l0, s0⟩
     have hs1 : Q w2 y1 := Q.trans bt hq1
     have hQ1 : Q w2 y1 := Q.trans hQ0 hs1
     replace hsl := MSl.keep hsl hs1
     go_wp2_with fail
     refine (HS0.out _ _ (hE.ofQ bt) hsl).mono ?_
     rintro e y2 ⟨vr, Lr, rfl, hq2, lr, sr⟩
     have hs2 : Q y1 y2 := Q.trans bt hq2
     have hQ2 : Q w2 y2 := Q.trans hQ1 hs2
     replace hsl := MSl.keep hsl hs2
     replace l0 := SurdL.keep l0 hs2
     go_wp2_with fail
     refine (HS0.out _ _ (hE.ofQ bt) (MSl.nil _ _ _)).mono ?_
     rintro e y3 ⟨vt, Lt, rfl, hq3, lt, st⟩
     have hs3 : Q y2 y3 := Q.trans bt hq3
     have hQ3 : Q w2 y3 := Q.trans hQ2 hs3
     replace hsl := MSl.keep hsl hs3
     replace l0 := SurdL.keep l0 hs3
     replace lr := SurdL.keep lr hs3
     go_wp2_with fail
     refine (HS0.out _ _ (hE.ofQ bt) (MSl.nil _ _ _)).mono ?_
     rintro e y4 ⟨vd, Ld, rfl, hq4, ld, sd⟩
     have hs4 : Q y3 y4 := Q.trans bt hq4
     have hQ4 : Q w2 y4 := Q.trans hQ3 hs4
     replace hsl := MSl.keep hsl hs4
     replace l0 := SurdL.keep l0 hs4
     replace lr := SurdL.keep lr hs4
     replace lt := SurdL.keep lt hs4
     go_wp2_with fail
     refine (surd_Add_sv Lt Ld st sd (by decide) _ _ _ _ _ (hE.ofQ bt) lt ld).mono ?_
     rintro e y5 ⟨vp, Lp, rfl, hq5, lp, sp⟩
     have hs5 : Q y4 y5 := Q.trans bt hq5
     have hQ5 : Q w2 y5 := Q.trans hQ4 hs5
     replace hsl := MSl.keep hsl hs5
     replace l0 := SurdL.keep l0 hs5
     replace lr := SurdL.keep lr hs5
     replace lt := SurdL.keep lt hs5
     go_wp2_with fail
     refine (surd_Compare_same L0 Lr s0 sr (fun _ _ => rfl) (by decide) _ _ _ _ _ (hE.ofQ bt) (hE.ofQ bt).places l0 lr).mono ?_
     rintro e y6 ⟨rfl, hq6⟩
     have hs6 : Q y5 y6 := Q.trans bt hq6
     have hQ6 : Q w2 y6 := Q.trans hQ5 hs6
     replace hsl := MSl.keep hsl hs6
     replace l0 := SurdL.keep l0 hs6
     replace lr := SurdL.keep lr hs6
     replace lt := SurdL.keep lt hs6
     replace lp := SurdL.keep lp hs6
     go_wp2_with fail
     refine (surd_Compare_same L0 Lp s0 sp hz2 (by decide) _ _ _ _ _ (hE.ofQ bt) (hE.ofQ bt).places l0 lp).mono ?_
     rintro e y7 ⟨rfl, hq7⟩
     have hs7 : Q y6 y7 := Q.trans bt hq7
     have hQ7 : Q w2 y7 := Q.trans hQ6 hs7
     replace hsl := MSl.keep hsl hs7
     replace l0 := SurdL.keep l0 hs7
     replace lr := SurdL.keep lr hs7
     replace lt := SurdL.keep lt hs7
     replace lp := SurdL.keep lp hs7
     go_wp2_with fail
     refine (awake32 _ (hE.ofQ bt)).mono ?_
     rintro e' w9 ⟨rfl, hq9⟩
     have hQ9 : Q w w9 := Q.trans hQW (Q.trans bt hq9)
     go_wp2
     go_ret
     exact ⟨rfl, hQ9⟩
    ·go_wp2_with fail
     refine (clone_members ms (by omega) _ wr HV0.out.sl).mono ?_
     rintro e w1 ⟨vb, rfl, hq1, hown1⟩
     go_wp2_with fail
     refine (reverse_members ms (by omega) wr.heap.size vb w1 hown1).mono ?_
     rintro e w2 ⟨rfl, hb2, hsl⟩
     have hqq : Q wr w2 := Below.trans hq1 hb2
     have hQW : Q w w2 := Q.trans hQ hqq
     replace hE : Env w2 := hE.q hQW
     have A2 := (HV0.out.keep hqq).sl
     have O2 := HV0.out.keep hqq
     have hrev : ∀ i, 0 < i → wth ms i = wth ms.reverse i := fun i _ => by
      unfold wth; exact VL_perm i ((List.reverse_perm ms).symm.map _)
     have hsplit : ∀ i, 0 < i → wth ms i = wth (ms.take k) i + wth (ms.drop k) i := fun i _ => by
      unfold wth; rw [← VL_append, ← List.map_append, List.take_append_drop]
     have n1 : ms.reverse.length = ms.length := List.length_reverse
     have n2 : (ms.take k).length = k := by rw [List.length_take]; omega
     have n3 : (ms.drop k).length = ms.length - k := List.length_drop
     have hmax := max_five
     have hgc : ms.length ≤ gc := by
      rcases HV0.out.2 with ⟨h, _⟩ | ⟨g', cap', cur, h, _, _, hnc, _⟩
      ·simp at h
      ·simp only [Value.slice.injEq] at h
       rw [h.2.2]; exact hnc
     have hkc : k ≤ gc := by omega
     have hk0 : (0 : Int) ≤ k := by omega
     have hkz : (k : Int) ≤ ms.length := by omega
     obtain ⟨ad, hga⟩ : ∃ ad, (if gc = k then (some ⟨g, 0, none⟩ : Option Addr) else some ⟨g, k * 11, none⟩) = ad := ⟨_, rfl⟩
     have had : k < ms.length → ad = some ⟨g, 0 + k * 11, none⟩ := fun h => by rw [← hga, if_neg (by omega), Nat.zero_add]
     clear hq1 hown1 hb2 hqq HV0 HRW hQ
     have hQ0 := Q.refl w2
     go_wp2_with fail
     refine (HS0.out _ _ hE A2).mono ?_
     rintro e y1 ⟨va, L0, rfl, hq1, l0, s0⟩
     have hs1 : Q w2 y1 := Q.trans bt hq1
     have hQ1 : Q w2 y1 := Q.trans hQ0 hs1
     replace A2 := MSl.keep A2 hs1
     replace O2 := MOwn.keep O2 hs1
     replace hsl := MSl.keep hsl hs1
     go_wp2_with fail
     refine (HSR.out _ _ (hE.ofQ bt) hsl).mono ?_
     rintro e y2 ⟨vr, Lr, rfl, hq2, lr, sr⟩
     have hs2 : Q y1 y2 := Q.trans bt hq2
     have hQ2 : Q w2 y2 := Q.trans hQ1 hs2
     replace A2 := MSl.keep A2 hs2
     replace O2 := MOwn.keep O2 hs2
     replace hsl := MSl.keep hsl hs2
     replace l0 := SurdL.keep l0 hs2
     clear hsl
     go_wp2_with fail
     refine (HST.out k _ _ (hE.ofQ bt) (A2.take k hk1 gc)).mono ?_
     rintro e y3 ⟨vt, Lt, rfl, hq3, lt, st⟩
     have hs3 : Q y2 y3 := Q.trans bt hq3
     have hQ3 : Q w2 y3 := Q.trans hQ2 hs3
     replace A2 := MSl.keep A2 hs3
     replace O2 := MOwn.keep O2 hs3
     replace l0 := SurdL.keep l0 hs3
     replace lr := SurdL.keep lr hs3
     go_wp2_with fail
     refine (HSD.out k _ _ (hE.ofQ bt) (A2.drop k hk1 ad had (gc - k))).mono ?_
     rintro e y4 ⟨vd, Ld, rfl, hq4, ld, sd⟩
     have hs4 : Q y3 y4 := Q.trans bt hq4
     have hQ4 : Q w2 y4 := Q.trans hQ3 hs4
     replace A2 := MSl.keep A2 hs4
     replace O2 := MOwn.keep O2 hs4
     replace l0 := SurdL.keep l0 hs4
     replace lr := SurdL.keep lr hs4
     replace lt := SurdL.keep lt hs4
     clear A2
     go_wp2_with fail
     refine (surd_Add_sv Lt Ld st sd (by omega) _ _ _ _ _ (hE.ofQ bt) lt ld).mono ?_
     rintro e y5 ⟨vp, Lp, rfl, hq5, lp, sp⟩
     have hs5 : Q y4 y5 := Q.trans bt hq5
     have hQ5 : Q w2 y5 := Q.trans hQ4 hs5
     replace O2 := MOwn.keep O2 hs5
     replace l0 := SurdL.keep l0 hs5
     replace lr := SurdL.keep lr hs5
     replace lt := SurdL.keep lt hs5
     clear lt
     clear ld
     go_wp2_with fail
     refine (surd_Compare_same L0 Lr s0 sr hrev (by omega) _ _ _ _ _ (hE.ofQ bt) (hE.ofQ bt).places l0 lr).mono ?_
     rintro e y6 ⟨rfl, hq6⟩
     have hs6 : Q y5 y6 := Q.trans bt hq6
     have hQ6 : Q w2 y6 := Q.trans hQ5 hs6
     replace O2 := MOwn.keep O2 hs6
     replace l0 := SurdL.keep l0 hs6
     replace lr := SurdL.keep lr hs6
     replace lp := SurdL.keep lp hs6
     clear lr
     go_wp2_with fail
     refine (surd_Compare_same L0 Lp s0 sp hsplit (by omega) _ _ _ _ _ (hE.ofQ bt) (hE.ofQ bt).places l0 lp).mono ?_
     rintro e y7 ⟨rfl, hq7⟩
     have hs7 : Q y6 y7 := Q.trans bt hq7
     have hQ7 : Q w2 y7 := Q.trans hQ6 hs7
     replace O2 := MOwn.keep O2 hs7
     replace l0 := SurdL.keep l0 hs7
     replace lp := SurdL.keep lp hs7
     clear l0
     clear lp
     clear HS0 HSR HST HSD hrev hsplit s0 sr st sd sp
     by_cases h2 : ms.length < 2
     ·have h2z : (ms.length : Int) < 2 := by omega
      go_wp2_with fail
      refine (awake32 _ (hE.ofQ bt)).mono ?_
      rintro e' w9 ⟨rfl, hq9⟩
      have hQ9 : Q w w9 := Q.trans hQW (Q.trans bt hq9)
      go_wp2
      go_ret
      exact ⟨rfl, hQ9⟩
     ·obtain ⟨m0, m1, r, rfl⟩ : ∃ m0 m1 r, ms = m0 :: m1 :: r := by
       match ms, h2 with
       | [], h => exact absurd (by simp : ([] : List Mem).length < 2) h
       | [_], h => exact absurd (by simp : ([_] : List Mem).length < 2) h
       | a :: b :: r, _ => exact ⟨a, b, r, rfl⟩
      have g0 := HG.out m0 (by simp)
      have g1 := HG.out m1 (by simp)
      have H0 : Hid (∀ w', MOwn w' w.heap.size (.slice (some ⟨g, 0, none⟩) (m0 :: m1 :: r).length gc) (m0 :: m1 :: r) → w'.cell? ⟨g, 0, none⟩ = some (.int .i64 1) ∧ w'.cell? ⟨g, 1, none⟩ = some (.int .i64 0) ∧ w'.cell? ⟨g, 2, none⟩ = some (.int .i64 (-1)) ∧ w'.cell? ⟨g, 3, none⟩ = some (.string ⟨(rstr m0.f.x).toArray⟩) ∧ w'.cell? ⟨g, 4, none⟩ = some (.string ⟨(rstr m0.f.y).toArray⟩) ∧ w'.cell? ⟨g, 5, none⟩ = some (.string ⟨(rstr m0.f.z).toArray⟩) ∧ w'.cell? ⟨g, 6, none⟩ = some (.string ⟨(rstr m0.t.x).toArray⟩) ∧ w'.cell? ⟨g, 7, none⟩ = some (.string ⟨(rstr m0.t.y).toArray⟩) ∧ w'.cell? ⟨g, 8, none⟩ = some (.string ⟨(rstr m0.t.z).toArray⟩) ∧ w'.cell? ⟨g, 9, none⟩ = some (.int .i64 60) ∧ w'.cell? ⟨g, 10, none⟩ = some (.int .i64 180)) := Lib.hid (fun w' h => ⟨cells_at h 0 (by simp) 0 _ rfl, cells_at h 0 (by simp) 1 _ rfl, cells_at h 0 (by simp) 2 _ rfl, cells_at h 0 (by simp) 3 _ rfl, cells_at h 0 (by simp) 4 _ rfl, cells_at h 0 (by simp) 5 _ rfl, cells_at h 0 (by simp) 6 _ rfl, cells_at h 0 (by simp) 7 _ rfl, cells_at h 0 (by simp) 8 _ rfl, cells_at h 0 (by simp) 9 _ rfl, cells_at h 0 (by simp) 10 _ rfl⟩)
      have H1 : Hid (∀ w', MOwn w' w.heap.size (.slice (some ⟨g, 0, none⟩) (m0 :: m1 :: r).length gc) (m0 :: m1 :: r) → w'.cell? ⟨g, 11, none⟩ = some (.int .i64 1) ∧ w'.cell? ⟨g, 12, none⟩ = some (.int .i64 0) ∧ w'.cell? ⟨g, 13, none⟩ = some (.int .i64 (-1)) ∧ w'.cell? ⟨g, 14, none⟩ = some (.string ⟨(rstr m1.f.x).toArray⟩) ∧ w'.cell? ⟨g, 15, none⟩ = some (.string ⟨(rstr m1.f.y).toArray⟩) ∧ w'.cell? ⟨g, 16, none⟩ = some (.string ⟨(rstr m1.f.z).toArray⟩) ∧ w'.cell? ⟨g, 17, none⟩ = some (.string ⟨(rstr m1.t.x).toArray⟩) ∧ w'.cell? ⟨g, 18, none⟩ = some (.string ⟨(rstr m1.t.y).toArray⟩) ∧ w'.cell? ⟨g, 19, none⟩ = some (.string ⟨(rstr m1.t.z).toArray⟩) ∧ w'.cell? ⟨g, 20, none⟩ = some (.int .i64 60) ∧ w'.cell? ⟨g, 21, none⟩ = some (.int .i64 180)) := Lib.hid (fun w' h => ⟨cells_at h 1 (by simp) 0 _ rfl, cells_at h 1 (by simp) 1 _ rfl, cells_at h 1 (by simp) 2 _ rfl, cells_at h 1 (by simp) 3 _ rfl, cells_at h 1 (by simp) 4 _ rfl, cells_at h 1 (by simp) 5 _ rfl, cells_at h 1 (by simp) 6 _ rfl, cells_at h 1 (by simp) 7 _ rfl, cells_at h 1 (by simp) 8 _ rfl, cells_at h 1 (by simp) 9 _ rfl, cells_at h 1 (by simp) 10 _ rfl⟩)
      have hmax := max_six
      have HL0 := Lib.hid (fun w hw => mem_Length g0 w hw)
      have HL1 := Lib.hid (fun w hw => mem_Length g1 w hw)
      have HDF := Lib.hid (fun w hw => true_Difference g0 g1 w hw)
      have v0 := sv_one g0
      have v1 := sv_one g1
      have hwf : ∀ i, 0 < i → wth [m0] i - wth [m1] i - wth [m0] i = -cf i (m1.c.1, m1.c.2) := fun i _ => by
       show _ = -cf i m1.c
       have e : wth [m1] i = cf i m1.c + 0 := rfl
       rw [e]; grind
      have hws : ∀ i, 0 < i → wth [m0] i - wth [m1] i + wth [m1] i = wth [m0] i := fun i _ => by grind
      have py := aOf_pos g1.sq g1.pos
      have pr := g1.gc.pos
      have h2z : ¬ ((m0 :: m1 :: r).length : Int) < 2 := by omega
      have hl1 : (1 : Int) < (m0 :: m1 :: r).length := by omega
      have hl0 : (0 : Int) < (m0 :: m1 :: r).length := by omega
      have hl0n : 0 < (m0 :: m1 :: r).length := by omega
      have hl1n : 1 < (m0 :: m1 :: r).length := by omega
      clear HG g0 g1 n1 n2 n3 had hga h2
      generalize (m0 :: m1 :: r).length = len at *
      unfold memC at *
      generalize rstr m0.f.x = X at *
      generalize rstr m0.f.y = Y at *
      generalize rstr m0.f.z = Z at *
      generalize rstr m0.t.x = X' at *
      generalize rstr m0.t.y = Y' at *
      generalize rstr m0.t.z = Z' at *
      generalize rstr m1.f.x = X1 at *
      generalize rstr m1.f.y = Y1 at *
      generalize rstr m1.f.z = Z1 at *
      generalize rstr m1.t.x = X1' at *
      generalize rstr m1.t.y = Y1' at *
      generalize rstr m1.t.z = Z1' at *
      obtain ⟨c0, c1, c2, c3, c4, c5, c6, c7, c8, c9, c10⟩ := H0.out _ O2
      go_wp2_with fail
      refine (HL0.out _ (hE.ofQ bt)).mono ?_
      rintro e y8 ⟨vx, rfl, hq8, lx⟩
      have hs8 : Q y7 y8 := Q.trans bt hq8
      have hQ8 : Q w2 y8 := Q.trans hQ7 hs8
      replace O2 := MOwn.keep O2 hs8
      clear c0 c1 c2 c3 c4 c5 c6 c7 c8 c9 c10
      obtain ⟨d0, d1, d2, d3, d4, d5, d6, d7, d8, d9, d10⟩ := H1.out _ O2
      go_wp2_with fail
      refine (HL1.out _ (hE.ofQ bt)).mono ?_
      rintro e y9 ⟨vy, rfl, hq9, ly⟩
      have hs9 : Q y8 y9 := Q.trans bt hq9
      have hQ9 : Q w2 y9 := Q.trans hQ8 hs9
      replace O2 := MOwn.keep O2 hs9
      replace lx := SurdL.keep lx hs9
      clear d0 d1 d2 d3 d4 d5 d6 d7 d8 d9 d10
      go_wp2_with fail
      obtain ⟨c0, c1, c2, c3, c4, c5, c6, c7, c8, c9, c10⟩ := H0.out y9.drew (show MOwn y9.drew _ _ _ from O2.drew)
      obtain ⟨d0, d1, d2, d3, d4, d5, d6, d7, d8, d9, d10⟩ := H1.out y9.drew (show MOwn y9.drew _ _ _ from O2.drew)
      have hqd : Q y9 y9.drew := Below.drew (Q.refl y9)
      refine wp_steadily 12 (by kernel_rfl) (by kernel_rfl) rfl ?_
      refine steadily_value (i := 0) (v := ?_) rfl rfl (by kernel_rfl) (by kernel_rfl) (fun _ _ _ h => h) (by rfl) ?_ ?_
      rotate_left
      ·(intro w' hq; go_simp; try with_reducible rfl)
      simp only [Act.put, List.setIfInBounds_toArray, List.set_cons_zero, List.set_cons_succ]
      refine steadily_value (i := 1) (v := ?_) rfl rfl (by kernel_rfl) (by kernel_rfl) (fun _ _ _ h => h) (by rfl) ?_ ?_
      rotate_left
      ·(intro w' hq; go_simp; try with_reducible rfl)
      simp only [Act.put, List.setIfInBounds_toArray, List.set_cons_zero, List.set_cons_succ]
      refine steadily_value (i := 2) (v := ?_) rfl rfl (by kernel_rfl) (by kernel_rfl) (fun _ _ _ h => h) (by rfl) ?_ ?_
      rotate_left
      ·(intro w' hq; have hc0 := qcell hq c0; have hc1 := qcell hq c1; have hc2 := qcell hq c2; have hc3 := qcell hq c3; have hc4 := qcell hq c4; have hc5 := qcell hq c5; have hc6 := qcell hq c6; have hc7 := qcell hq c7; have hc8 := qcell hq c8; have hc9 := qcell hq c9; have hc10 := qcell hq c10; go_simp; try with_reducible rfl)
      simp only [Act.put, List.setIfInBounds_toArray, List.set_cons_zero, List.set_cons_succ]
      refine steadily_value (i := 3) (v := ?_) rfl rfl (by kernel_rfl) (by kernel_rfl) (fun _ _ _ h => h) (by rfl) ?_ ?_
      rotate_left
      ·(intro w' hq; go_simp; try with_reducible rfl)
      simp only [Act.put, List.setIfInBounds_toArray, List.set_cons_zero, List.set_cons_succ]
      refine steadily_value (i := 4) (v := ?_) rfl rfl (by kernel_rfl) (by kernel_rfl) (fun _ _ _ h => h) (by rfl) ?_ ?_
      rotate_left
      ·(intro w' hq; go_simp; try with_reducible rfl)
      simp only [Act.put, List.setIfInBounds_toArray, List.set_cons_zero, List.set_cons_succ]
      refine steadily_value (i := 5) (v := ?_) rfl rfl (by kernel_rfl) (by kernel_rfl) (fun _ _ _ h => h) (by rfl) ?_ ?_
      rotate_left
      ·(intro w' hq; have hc0 := qcell hq d0; have hc1 := qcell hq d1; have hc2 := qcell hq d2; have hc3 := qcell hq d3; have hc4 := qcell hq d4; have hc5 := qcell hq d5; have hc6 := qcell hq d6; have hc7 := qcell hq d7; have hc8 := qcell hq d8; have hc9 := qcell hq d9; have hc10 := qcell hq d10; go_simp; try with_reducible rfl)
      simp only [Act.put, List.setIfInBounds_toArray, List.set_cons_zero, List.set_cons_succ]
      refine steadily_only (i := 6) rfl rfl (by kernel_rfl) (by rfl) ?_ (fun w' hq => (HDF.out w' (hE.ofQ (Q.trans hQ9 (Q.trans hqd hq)))).mono ?_)
      ·(intro w' hq; go_simp; try with_reducible rfl)
      rintro e y10 ⟨vz, Lz, rfl, hq10, lz, sz⟩
      refine ⟨_, rfl, hq10, ?_⟩
      simp only [Act.put, List.setIfInBounds_toArray, List.set_cons_zero, List.set_cons_succ]
      refine steadily_value (i := 7) (v := ?_) rfl rfl (by kernel_rfl) (by kernel_rfl) (fun _ _ _ h => h) (by rfl) ?_ ?_
      rotate_left
      ·(intro w' hq; go_simp; try with_reducible rfl)
      simp only [Act.put, List.setIfInBounds_toArray, List.set_cons_zero, List.set_cons_succ]
      refine steadily_value (i := 8) (v := ?_) rfl rfl (by kernel_rfl) (by kernel_rfl) (fun _ _ _ h => h) (by rfl) ?_ ?_
      rotate_left
      ·(intro w' hq; go_simp; try with_reducible rfl)
      simp only [Act.put, List.setIfInBounds_toArray, List.set_cons_zero, List.set_cons_succ]
      refine steadily_value (i := 9) (v := ?_) rfl rfl (by kernel_rfl) (by kernel_rfl) (fun _ _ _ h => h) (by rfl) ?_ ?_
      rotate_left
      ·(intro w' hq; go_simp; try with_reducible rfl)
      simp only [Act.put, List.setIfInBounds_toArray, List.set_cons_zero, List.set_cons_succ]
      refine steadily_value (i := 10) (v := ?_) rfl rfl (by kernel_rfl) (by kernel_rfl) (fun _ _ _ h => h) (by rfl) ?_ ?_
      rotate_left
      ·(intro w' hq; go_simp; try with_reducible rfl)
      simp only [Act.put, List.setIfInBounds_toArray, List.set_cons_zero, List.set_cons_succ]
      refine steadily_value (i := 11) (v := ?_) rfl rfl (by kernel_rfl) (by kernel_rfl) (fun _ _ _ h => h) (by rfl) ?_ ?_
      rotate_left
      ·(intro w' hq; go_simp; try with_reducible rfl)
      simp only [Act.put, List.setIfInBounds_toArray, List.set_cons_zero, List.set_cons_succ]
      refine steadily_done (by kernel_rfl) (fun y11 hq11 => ?_)
      simp only [List.drop_succ_cons, List.drop_nil]
      have hs11 : Q y9 y11 := Q.trans hqd (Q.trans (Q.trans hq hq10) hq11)
      have hQ11 : Q w2 y11 := Q.trans hQ9 hs11
      have h10 : Q y10 y11 := hq11
      have kz := lz.keep h10
      have kx := lx.keep hs11
      have ky := ly.keep hs11
      clear lz lx ly O2 H0 H1 HL0 HL1 HDF
      replace hE : Env y11 := hE.q hQ11
      have hQW2 : Q w y11 := Q.trans hQW hQ11
      clear hs11 h10 hq10 hq11 hq hqd
      have hQ0 := Q.refl y11
      go_wp2_with fail
      refine (surd_Add_sv Lz [m1.c] sz v1 (by decide) _ _ _ _ _ hE kz ky).mono ?_
      rintro e z1 ⟨vk, Lk, rfl, hq1, lk, sk⟩
      have hs1 : Q y11 z1 := Q.trans bt hq1
      have hQ1 : Q y11 z1 := Q.trans hQ0 hs1
      replace kx := SurdL.keep kx hs1
      replace kz := SurdL.keep kz hs1
      go_wp2_with fail
      refine (surd_Compare_less Lz [m0.c] sz v0 py pr hwf (by decide) _ _ _ _ _ (hE.ofQ bt) (hE.ofQ bt).places kz kx).mono ?_
      rintro e z2 ⟨rfl, hq2⟩
      have hs2 : Q z1 z2 := Q.trans bt hq2
      have hQ2 : Q y11 z2 := Q.trans hQ1 hs2
      replace kx := SurdL.keep kx hs2
      replace kz := SurdL.keep kz hs2
      replace lk := SurdL.keep lk hs2
      go_wp2_with fail
      refine (surd_Compare_same Lk [m0.c] sk v0 hws (by decide) _ _ _ _ _ (hE.ofQ bt) (hE.ofQ bt).places lk kx).mono ?_
      rintro e z3 ⟨rfl, hq3⟩
      have hs3 : Q z2 z3 := Q.trans bt hq3
      have hQ3 : Q y11 z3 := Q.trans hQ2 hs3
      replace kx := SurdL.keep kx hs3
      replace kz := SurdL.keep kz hs3
      replace lk := SurdL.keep lk hs3
      clear sz sk hwf hws v0 v1
      go_wp2_with fail
      refine (awake32 _ (hE.ofQ bt)).mono ?_
      rintro e' w9 ⟨rfl, hq9⟩
      have hQ9' : Q w w9 := Q.trans hQW2 (Q.trans bt hq9)
      go_wp2
      go_ret
      exact ⟨rfl, hQ9'⟩
 ·have h5z : 5 < (l.length : Int) := by omega
  clear HC HL HI HZ HS HBy
  generalize l.length = len at *
  go_enter Tryz.func3, Tryz.ntmps3
  go_wp2_with fail
  refine (awake32 _ hE).mono ?_
  rintro e' w1 ⟨rfl, hq1⟩
  go_wp2
  go_ret
  exact ⟨rfl, hq1⟩
theorem sums32_walk (l : List Sml) (hl : ∀ s ∈ l, s.ok) (hlen : l.length < 2 ^ 62) (x : Int) (hx0 : 0 ≤ x) (hx : x ≤ 255) (v : Value) (w : World) (hE : Env w) (hv : SmSl w v l) :
  Calls Tryz.prog 3 #[v, .int .u8 x] w fun e w' => e = .returned (.bool true) ∧ Q w w' := by
 obtain ⟨n, rfl⟩ := Int.eq_ofNat_of_zero_le hx0
 exact sums32_law l hl hlen n (by omega) v w hE hv
end Go.Proofs.YtedijdmenfcjlaaGreatDoor
