/-
  What the small members of the chapter's laws are as arguments.
-/
import Derived.Test.YthokehkdpmbeaaaGreatDoorFOW
import Derived.Test.YthokehkdpmbeaaaGreatDoorVZ3
import Derived.Lib.SmallJoins
import Derived.Laws.IdiomArrays
namespace Go.Proofs.YthokehkdpmbeaaaGreatDoor
open Go.ChangeShapes Go.WideShapes Go.ChangeAt Go.RowKit Go.Deep Kp

theorem i8_of {x : Int} (h : (Go.Lit.int .i8 x).wf = true) : I8 x := by
  have h2 : (decide (IntKind.min .i8 ≤ x) && decide (x ≤ IntKind.max .i8)) = true := h
  rw [show IntKind.min .i8 = -128 from rfl, show IntKind.max .i8 = 127 from rfl] at h2
  have h3 : -128 ≤ x ∧ x ≤ 127 := by simpa using h2
  exact h3

theorem cI8 : Tryz.prog.cellsOf 22 = 1 := by kernel_rfl
theorem cI8s : Tryz.prog.cellsOf 23 = 3 := by kernel_rfl
theorem cSmall : Tryz.prog.cellsOf 25 = 6 := by kernel_rfl
theorem smallFields : Tryz.prog.underlying 25 = some (.struct (Tryz.prog.fieldsOf 25)) := by kernel_rfl
theorem smallOff : (Tryz.prog.fieldsOf 25).map (fun f => (f.type, f.offset)) = #[(23, 0), (23, 3)] := by kernel_rfl

section
variable {H : Type} {enc : TypeId × Value → H} {W : World} {b0 : Nat} {sp : Nat → Bool} {held : Bool}
theorem trod_i8s {c0 c1 c2 : Value} {fuel : Nat} {x : DataW H × List MemPlace} (h : DataW.trod enc Tryz.prog W 0 sp held fuel 23 [c0, c1, c2] = some x) :
    ∃ p q r : Int, c0 = .int .i8 p ∧ c1 = .int .i8 q ∧ c2 = .int .i8 r ∧ I8 p ∧ I8 q ∧ I8 r := by
  obtain ⟨y0, y1, y2, n, -, h0, h1, h2⟩ := trod_array3 Tryz.underlying23 cI8 h
  obtain ⟨p, e0, -, f0⟩ := DataW.trod_int Tryz.underlying22 h0
  obtain ⟨q, e1, -, f1⟩ := DataW.trod_int Tryz.underlying22 h1
  obtain ⟨r, e2, -, f2⟩ := DataW.trod_int Tryz.underlying22 h2
  simp only [List.cons.injEq, and_true] at e0 e1 e2
  exact ⟨p, q, r, e0, e1, e2, i8_of f0, i8_of f1, i8_of f2⟩

theorem array6 {α : Type} {cs : Array α} (h : cs.size = 6) : ∃ c0 c1 c2 c3 c4 c5, cs = #[c0, c1, c2, c3, c4, c5] := by
  obtain ⟨l⟩ := cs
  match l, h with
  | [c0, c1, c2, c3, c4, c5], _ => exact ⟨c0, c1, c2, c3, c4, c5, rfl⟩

set_option maxRecDepth 100000 in
theorem open_small {v : Value} {d : DataW H} {ps : List MemPlace} (hok : Value.okWide Tryz.prog W .any b0 25 v) (h : DataW.Trod enc Tryz.prog W 0 sp held 25 v d ps) :
    ∃ a b c d e f : Int, v = .agg #[.int .i8 a, .int .i8 b, .int .i8 c, .int .i8 d, .int .i8 e, .int .i8 f] ∧ I8 a ∧ I8 b ∧ I8 c ∧ I8 d ∧ I8 e ∧ I8 f := by
  obtain ⟨cs, rfl, hsz⟩ := okWide_struct smallFields hok
  obtain ⟨c0, c1, c2, c3, c4, c5, rfl⟩ := array6 (hsz.trans cSmall)
  obtain ⟨fuel, hf⟩ := h
  obtain ⟨ys, n, rfl, -, -, hyl, hat⟩ := DataW.trod_struct smallFields (show DataW.trod enc Tryz.prog W 0 sp held fuel 25 [c0, c1, c2, c3, c4, c5] = some (d, ps) from hf)
  have key : ∀ (i : Nat) (t o : Nat), (#[(23, 0), (23, 3)] : Array (TypeId × Nat))[i]? = some (t, o) → ∃ f, (Tryz.prog.fieldsOf 25)[i]? = some f ∧ f.type = t ∧ f.offset = o := fun i t o hi => by
    rw [← smallOff, Array.getElem?_map] at hi
    obtain ⟨f, h1, h2⟩ := Option.map_eq_some_iff.1 hi
    simp only [Prod.mk.injEq] at h2
    exact ⟨f, h1, h2.1, h2.2⟩
  obtain ⟨f0, g0, t0, o0⟩ := key 0 23 0 rfl
  obtain ⟨f1, g1, t1, o1⟩ := key 1 23 3 rfl
  have h0 := hat 0 f0 g0
  have h1 := hat 1 f1 g1
  rw [t0, o0, cI8s] at h0
  rw [t1, o1, cI8s] at h1
  have hs2 : ys.length = 2 := by
    have := congrArg Array.size smallOff
    simp only [Array.size_map] at this
    rw [hyl, this]; rfl
  obtain ⟨y0, hy0⟩ : ∃ y, ys[0]? = some y := ⟨ys[0], List.getElem?_eq_getElem (by omega)⟩
  obtain ⟨y1, hy1⟩ : ∃ y, ys[1]? = some y := ⟨ys[1], List.getElem?_eq_getElem (by omega)⟩
  rw [hy0] at h0
  rw [hy1] at h1
  obtain ⟨a, b, c, rfl, rfl, rfl, ka, kb, kc⟩ := trod_i8s (show DataW.trod enc Tryz.prog W 0 sp held n 23 [c0, c1, c2] = some y0 from h0)
  obtain ⟨a', b', c', rfl, rfl, rfl, ka', kb', kc'⟩ := trod_i8s (show DataW.trod enc Tryz.prog W 0 sp held n 23 [c3, c4, c5] = some y1 from h1)
  exact ⟨a, b, c, a', b', c', rfl, ka, kb, kc, ka', kb', kc'⟩
end

end Go.Proofs.YthokehkdpmbeaaaGreatDoor
