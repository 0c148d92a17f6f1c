/-
  Walks: root.check, of, negative, Normal at numbers with short parts.
-/
import Derived.Test.YthokehkdpmbeaaaGreatDoorWL
namespace Go.Proofs.YthokehkdpmbeaaaGreatDoor
open Go.RowKit Kp

theorem quiet_same {P : Program} {f : FuncId} {args : Array Value} {w : World} {n : Nat} {v : Value}
    (h : Calls P f args (w.drewN n) fun e w' => e = .returned v ∧ w.drewN n = w') : Calls P f args (w.drewN n) fun e w'' => e = .returned v ∧ ∃ m, w'' = w.drewN m :=
  h.mono fun _ _ ⟨he, hm⟩ => ⟨he, n, hm.symm⟩

/-- A slice of strings that lies in memory. -/
def StrSl (w : World) (v : Value) (l : List Str) : Prop :=
  ∃ b off cap, v = .slice (some ⟨b, off, none⟩) l.length cap ∧ b < w.heap.size ∧ ∀ i, i < l.length → w.cell? ⟨b, off + i, none⟩ = some (.string ⟨(l.getD i []).toArray⟩)

set_option maxHeartbeats 400000 in
theorem root_negative (s : Str) (w : World) :
    Calls Tryz.prog 184 #[.string ⟨s.toArray⟩] w fun e w' => e = .returned (.bool (decide (s.head? = some 45))) ∧ w = w' := by
  go_enter Tryz.func184, Tryz.ntmps184
  go_wp2_with fail
  refine (lib_HasMinus s _).mono ?_
  rintro e w1 ⟨rfl, rfl⟩
  go_wp2
  go_ret
  exact ⟨rfl, rfl⟩

theorem ret_of (tmps : Array Value) (W : World) (b : Nat) (x y : Value) (hp : tmps.getD 2 undef = .pointer (some ⟨b, 0, none⟩))
    (c0 : W.cell? ⟨b, 0, none⟩ = some x) (c1 : W.cell? ⟨b, 1, none⟩ = some y) :
    (results Tryz.f141 tmps).run Tryz.prog W = .ok (.agg #[x, y]) W := by
  simp only [Array.getD_eq_getD_getElem?] at hp
  simp [results, Tryz.results141, go_sem, hp, c0, c1]

theorem rstr_head (q : Rat) : (rstr q).head? = some 45 ↔ q.num < 0 := by
  unfold rstr; split
  · have := head_itoa q.num []; rw [List.append_nil] at this; exact this
  · exact head_itoa q.num _

end Go.Proofs.YthokehkdpmbeaaaGreatDoor
