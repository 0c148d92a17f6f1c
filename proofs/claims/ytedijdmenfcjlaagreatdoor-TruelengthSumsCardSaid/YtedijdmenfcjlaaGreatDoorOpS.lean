/-
  What the small members of the chapter's laws are as arguments.; A slice of small members as an argument.
-/
import Derived.Test.YtedijdmenfcjlaaGreatDoorFOW
import Derived.Test.YtedijdmenfcjlaaGreatDoorVZ3
import Derived.Lib.SmallJoins
import Derived.Laws.IdiomArrays
import Derived.Test.YtedijdmenfcjlaaGreatDoorUS
namespace Go.Proofs.YtedijdmenfcjlaaGreatDoor
open Go.ChangeShapes Go.WideShapes Go.ChangeAt Go.RowKit Go.Deep Kp
theorem i8_of {x : Int} (h : (Go.Lit.int .i8 x).wf = true) : I8 x := by
 have h2 : (decide (IntKind.min .i8 ≤ x) && decide (x ≤ IntKind.max .i8)) = true := h
 rw [show IntKind.min .i8 = -128 from rfl, show IntKind.max .i8 = 127 from rfl] at h2
 have h3 : -128 ≤ x ∧ x ≤ 127 := by simpa using h2
 exact h3
theorem cI8 : Tryz.prog.cellsOf 25 = 1 := by kernel_rfl
theorem cI8s : Tryz.prog.cellsOf 26 = 3 := by kernel_rfl
theorem cSmall : Tryz.prog.cellsOf 28 = 6 := by kernel_rfl
theorem smallFields : Tryz.prog.underlying 28 = some (.struct (Tryz.prog.fieldsOf 28)) := by kernel_rfl
theorem smallOff : (Tryz.prog.fieldsOf 28).map (fun f => (f.type, f.offset)) = #[(26, 0), (26, 3)] := by kernel_rfl
section
variable {H : Type} {enc : TypeId × Value → H} {W : World} {b0 : Nat} {sp : Nat → Bool} {held : Bool}
theorem trod_i8s {c0 c1 c2 : Value} {fuel : Nat} {x : DataW H × List MemPlace} (h : DataW.trod enc Tryz.prog W 0 sp held fuel 26 [c0, c1, c2] = some x) :
  ∃ p q r : Int, c0 = .int .i8 p ∧ c1 = .int .i8 q ∧ c2 = .int .i8 r ∧ I8 p ∧ I8 q ∧ I8 r := by
 obtain ⟨y0, y1, y2, n, -, h0, h1, h2⟩ := trod_array3 Tryz.underlying26 cI8 h
 obtain ⟨p, e0, -, f0⟩ := DataW.trod_int Tryz.underlying25 h0
 obtain ⟨q, e1, -, f1⟩ := DataW.trod_int Tryz.underlying25 h1
 obtain ⟨r, e2, -, f2⟩ := DataW.trod_int Tryz.underlying25 h2
 simp only [List.cons.injEq, and_true] at e0 e1 e2
 exact ⟨p, q, r, e0, e1, e2, i8_of f0, i8_of f1, i8_of f2⟩
end
end Go.Proofs.YtedijdmenfcjlaaGreatDoor
namespace Go.Proofs.YtedijdmenfcjlaaGreatDoor
open Go.ChangeShapes Go.WideShapes Go.ChangeAt Go.RowKit Go.Deep Kp
theorem pick_smls {C : Nat → Sml → Prop} : ∀ (n : Nat), (∀ i, i < n → ∃ s, C i s) → ∃ l : List Sml, l.length = n ∧ ∀ i (h : i < l.length), C i l[i]
 | 0, _ => ⟨[], rfl, fun _ hi => absurd hi (Nat.not_lt_zero _)⟩
 | n + 1, h => by
  obtain ⟨l, hl, hc⟩ := pick_smls n (fun i hi => h i (by omega))
  obtain ⟨s, hs⟩ := h n (by omega)
  refine ⟨l ++ [s], by simp [hl], fun i hi => ?_⟩
  by_cases e : i < l.length
  ·rw [List.getElem_append_left e]; exact hc i e
  ·have e2 : i = n := by simp at hi; omega
   subst e2
   rw [List.getElem_append_right (by omega)]
   simpa using hs
theorem smallBytes : Tryz.prog.bytesOf 28 = 6 := by kernel_rfl
section
variable {H : Type} {enc : TypeId × Value → H} {W : World} {b0 : Nat} {sp : Nat → Bool} {held : Bool}
set_option maxRecDepth 100000 in
theorem trod_small {c0 c1 c2 c3 c4 c5 : Value} {fuel : Nat} {x : DataW H × List MemPlace} (h : DataW.trod enc Tryz.prog W 0 sp held fuel 28 [c0, c1, c2, c3, c4, c5] = some x) :
  ∃ s : Sml, s.ok ∧ [c0, c1, c2, c3, c4, c5] = smC s := by
 obtain ⟨ys, n, -, -, -, hyl, hat⟩ := DataW.trod_struct smallFields h
 have key : ∀ (i : Nat) (t o : Nat), (#[(26, 0), (26, 3)] : Array (TypeId × Nat))[i]? = some (t, o) → ∃ f, (Tryz.prog.fieldsOf 28)[i]? = some f ∧ f.type = t ∧ f.offset = o := fun i t o hi => by
  rw [← smallOff, Array.getElem?_map] at hi
  obtain ⟨f, h1, h2⟩ := Option.map_eq_some_iff.1 hi
  simp only [Prod.mk.injEq] at h2
  exact ⟨f, h1, h2.1, h2.2⟩
 obtain ⟨f0, g0, t0, o0⟩ := key 0 26 0 rfl
 obtain ⟨f1, g1, t1, o1⟩ := key 1 26 3 rfl
 have h0 := hat 0 f0 g0
 have h1 := hat 1 f1 g1
 rw [t0, o0, cI8s] at h0
 rw [t1, o1, cI8s] at h1
 have hs2 : ys.length = 2 := by
  have := congrArg Array.size smallOff
  simp only [Array.size_map] at this
  rw [hyl, this]; rfl
 obtain ⟨y0, hy0⟩ : ∃ y, ys[0]? = some y := ⟨ys[0], List.getElem?_eq_getElem (by omega)⟩
 obtain ⟨y1, hy1⟩ : ∃ y, ys[1]? = some y := ⟨ys[1], List.getElem?_eq_getElem (by omega)⟩
 rw [hy0] at h0
 rw [hy1] at h1
 obtain ⟨a, b, c, rfl, rfl, rfl, ka, kb, kc⟩ := trod_i8s (show DataW.trod enc Tryz.prog W 0 sp held n 26 [c0, c1, c2] = some y0 from h0)
 obtain ⟨a', b', c', rfl, rfl, rfl, ka', kb', kc'⟩ := trod_i8s (show DataW.trod enc Tryz.prog W 0 sp held n 26 [c3, c4, c5] = some y1 from h1)
 exact ⟨⟨a, b, c, a', b', c'⟩, ⟨ka, kb, kc, ka', kb', kc'⟩, rfl⟩
theorem list6 {α : Type} {cs : List α} (h : cs.length = 6) : ∃ c0 c1 c2 c3 c4 c5, cs = [c0, c1, c2, c3, c4, c5] := by
 match cs, h with
 | [c0, c1, c2, c3, c4, c5], _ => exact ⟨c0, c1, c2, c3, c4, c5, rfl⟩
set_option maxRecDepth 100000 in
theorem open_smalls {v : Value} {d : DataW H} {p : List MemPlace}
  (hok : Value.okWide Tryz.prog W .any b0 22 v) (h : DataW.Trod enc Tryz.prog W 0 sp held 22 v d p)
  (hsz : ∀ elems spare, d = .slice elems spare → (elems.length + spare.length) * Tryz.prog.bytesOf 28 ≤ reachBytes) : ∃ l : List Sml, SmSl W v l ∧ (∀ s ∈ l, s.ok) ∧ l.length < 2 ^ 62 := by
 obtain ⟨a0, len0, cap0, rfl⟩ := okWide_slice Tryz.underlying22 hok
 obtain ⟨fuel, hf⟩ := h
 rcases open_slice Tryz.underlying22 hf with ⟨hcs, _⟩ | ⟨a, len, cap, m, n, D, Pl, hcs, _, hl, hm, hmm, hx, hi⟩
 ·simp [Value.cells] at hcs
  obtain ⟨rfl, rfl, rfl⟩ := hcs
  exact ⟨[], ⟨none, 0, rfl, fun _ hi => absurd hi (Nat.not_lt_zero _)⟩, fun s hs => by simp at hs, by simp⟩
 ·simp [Value.cells] at hcs
  obtain ⟨rfl, rfl, rfl⟩ := hcs
  have hlm : len0 ≤ m := by rw [hmm]; split <;> omega
  have key : ∀ i, i < len0 → ∃ s : Sml, s.ok ∧ ∀ j u, (smC s)[j]? = some u → W.cell? ((a.add (i * 6)).add j) = some u := fun i hil => by
   obtain ⟨cs', hc, ht⟩ := hi i (by omega)
   rw [cSmall] at hc
   obtain ⟨_, hcl, hat⟩ := World.cells?_some hc
   obtain ⟨c0, c1, c2, c3, c4, c5, rfl⟩ := list6 hcl
   obtain ⟨s, hs, he⟩ := trod_small ht
   refine ⟨s, hs, fun j u hu => ?_⟩
   rw [← he] at hu
   have hj : j < 6 := (List.getElem?_eq_some_iff.1 hu).1
   rw [hat j hj]; exact hu
  obtain ⟨l, hll, hc⟩ := pick_smls len0 key
  refine ⟨l, ⟨some a, cap0, by rw [hll], fun i hil => ?_⟩, fun s hs => ?_, by
   simp only [Prod.mk.injEq] at hx
   have h3 := hsz _ _ hx.1
   rw [smallBytes] at h3
   simp only [List.length_map, List.length_range, reachBytes] at h3
   omega⟩
  ·obtain ⟨b, o, spot⟩ := a
   have z0 := (hc 0 (by omega)).2 0 _ rfl
   have hs : spot = none := by simpa [Addr.add] using World.cell?_spot z0
   subst hs
   have hcc : ∀ j u, (smC l[i])[j]? = some u → W.cell? ⟨b, o + i * 6 + j, none⟩ = some u := fun j u hu => by
    have h2 := (hc i hil).2 j u hu
    rwa [Addr.add_lit, Addr.add_lit] at h2
   have hb : b < W.heap.size := World.block_lt_of_cell? W _ (hcc 0 _ rfl)
   exact ⟨b, o, rfl, hb, hcc⟩
  ·obtain ⟨i, hi, rfl⟩ := List.mem_iff_getElem.1 hs
   exact (hc i hi).1
end
end Go.Proofs.YtedijdmenfcjlaaGreatDoor
