/-
  Walks: rational.read, Check, Parts at numbers with short parts; quick.
-/
import Derived.Test.YtedijdmenfcjlaaGreatDoorWE
import Derived.Test.YtedijdmenfcjlaaGreatDoorWF
import Derived.Test.YtedijdmenfcjlaaGreatDoorWG
import Derived.Test.YtedijdmenfcjlaaGreatDoorBlk
namespace Go.Proofs.YtedijdmenfcjlaaGreatDoor
open Go.RowKit Kp
theorem ret_read (tmps : Array Value) (W : World) (b : Nat) (x y u : Value) (hp : tmps.getD 2 undef = .pointer (some ⟨b, 0, none⟩)) (hu : tmps.getD 3 undef = u)
  (c0 : W.cell? ⟨b, 0, none⟩ = some x) (c1 : W.cell? ⟨b, 1, none⟩ = some y) :
  (results Tryz.f60 tmps).run Tryz.prog W = .ok (.tuple #[.agg #[x, y], u]) W := by
 simp only [Array.getD_eq_getD_getElem?] at hp hu
 simp [results, Tryz.results60, go_sem, hp, hu, c0, c1]
theorem natOfV_small {q : Rat} (h : Small8 q) : natOfV (rstr q) = .tuple #[.agg #[.int .i64 q.num, .int .i64 (q.den : Int)], .bool true] := natOfV_some (natOf_small h)
theorem small_len {q : Rat} (h : Small8 q) : (rstr q).length ≤ 1000 := by
 have h1 := itoa_len q.num (lim_small (by have := h.1; omega))
 have h2 := itoa_len (q.den : Int) (lim_small (by have := h.2; omega))
 unfold rstr; split
 ·omega
 ·rw [dec_eq_itoa, List.length_append, List.length_cons]; omega
end Go.Proofs.YtedijdmenfcjlaaGreatDoor
