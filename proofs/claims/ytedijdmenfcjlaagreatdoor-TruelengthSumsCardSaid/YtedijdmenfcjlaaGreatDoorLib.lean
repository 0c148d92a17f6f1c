/-
  Go's library, as this seat's proofs use it: every call keeps what lay there.
-/
import Derived.Test.YtedijdmenfcjlaaGreatDoorEnv
import Derived.Test.YtedijdmenfcjlaaGreatDoorMA
import Derived.Test.YtedijdmenfcjlaaGreatDoorShelf
import Derived.Test.YtedijdmenfcjlaaGreatDoorBuilder
import Derived.Lib.SmallJoins
import Derived.Shelf.Strings.SlTrimAscii
namespace Go.Proofs.YtedijdmenfcjlaaGreatDoor
open Go.RowKit Kp
theorem below_grow (w : World) (os : Array Obj) : Below w.heap.size w (Sort.grow w os) :=
 ⟨rfl, rfl, rfl, by simp [Sort.grow], fun k hk => by simp [Sort.grow, Array.getElem?_append_left hk]⟩
theorem lib_Itoa (z : Int) (h0 : -9223372036854775808 ≤ z) (h1 : z ≤ 9223372036854775807) (w : World) (hE : Env w) :
  Calls Tryz.prog 70 #[.int .i64 z] w fun e w' => e = .returned (.string ⟨(Lib.itoa z).toArray⟩) ∧ Q w w' := by
 refine (Tryz.strconv_Itoa z h0 h1 w hE.pow10).mono ?_
 rintro e w' ⟨rfl, k, os, rfl⟩
 exact ⟨rfl, (Below.drewN (Below.refl _ w) k).trans (below_grow (w.drewN k) os)⟩
theorem lib_Atoi (z : Int) (h : (Lib.itoa z).length ≤ 18) (w : World) :
  Calls Tryz.prog 139 #[.string ⟨(Lib.itoa z).toArray⟩] w fun e w' => e = .returned (.tuple #[.int .i64 z, .nilIface]) ∧ Q w w' := by
 refine (Tryz.strconv_Atoi ⟨(Lib.itoa z).toArray⟩ z h (by simpa using atoi_itoa z) w).mono ?_
 rintro e w' ⟨rfl, t, rfl⟩
 exact ⟨rfl, Joins.below_bytesWorld _ _ _ _ (Nat.le_refl _)⟩
theorem lib_TrimMinus (s : Str) (w : World) :
  Calls Tryz.prog 35 #[.string ⟨s.toArray⟩, .string ⟨#[45]⟩] w fun e w' => e = .returned (.string ⟨(unsig s).toArray⟩) ∧ w = w' := by
 refine (Tryz.strings_TrimPrefix ⟨s.toArray⟩ ⟨#[45]⟩ w).mono ?_
 rintro e w' ⟨rfl, rfl⟩
 exact ⟨by simp only [trimPrefix_minus], rfl⟩
theorem lib_CutMinus (s : Str) (w : World) :
  Calls Tryz.prog 145 #[.string ⟨s.toArray⟩, .string ⟨#[45]⟩] w fun e w' => e = .returned (.tuple #[.string ⟨(unsig s).toArray⟩, .bool (decide (s.head? = some 45))]) ∧ w = w' := by
 refine (Tryz.strings_CutPrefix ⟨s.toArray⟩ ⟨#[45]⟩ w).mono ?_
 rintro e w' ⟨rfl, rfl⟩
 exact ⟨by simp only [trimPrefix_minus, hasPrefix_minus], rfl⟩
theorem lib_HasMinus (s : Str) (w : World) :
  Calls Tryz.prog 37 #[.string ⟨s.toArray⟩, .string ⟨#[45]⟩] w fun e w' => e = .returned (.bool (decide (s.head? = some 45))) ∧ w = w' := by
 refine (Tryz.strings_HasPrefix ⟨s.toArray⟩ ⟨#[45]⟩ w).mono ?_
 rintro e w' ⟨rfl, rfl⟩
 exact ⟨by simp only [hasPrefix_minus], rfl⟩
def denCut (s : Str) : Str := if hasSlash s then denPart s else []
theorem lib_CutSlash (s : Str) (hs : s.length < 4294967281) (w : World) (hE : Env w) :
  Calls Tryz.prog 162 #[.string ⟨s.toArray⟩, .string ⟨#[47]⟩] w fun e w' => e = .returned (.tuple #[.string ⟨(numPart s).toArray⟩, .string ⟨(denCut s).toArray⟩, .bool (hasSlash s)]) ∧ ∃ n, w' = w.drewN n := by
 obtain ⟨m, hm⟩ := hE.maxlen
 refine (Tryz.strings_Cut ⟨s.toArray⟩ ⟨#[47]⟩ m w hs hm).mono ?_
 rintro e w' ⟨rfl, h⟩
 exact ⟨by simp only [cut_slash]; rfl, h⟩
theorem lib_ContainsSlash (s : Str) (hs : s.length < 4294967281) (w : World) (hE : Env w) :
  Calls Tryz.prog 117 #[.string ⟨s.toArray⟩, .string ⟨#[47]⟩] w fun e w' => e = .returned (.bool (hasSlash s)) ∧ w = w' := by
 obtain ⟨m, hm⟩ := hE.maxlen
 refine (Tryz.strings_Contains ⟨s.toArray⟩ ⟨#[47]⟩ m w hs hm).mono ?_
 rintro e w' ⟨rfl, rfl⟩
 exact ⟨by simp only [contains_slash], rfl⟩
def noDig (s : Str) : Str := Lib.trimS s [48, 49, 50, 51, 52, 53, 54, 55, 56, 57]
theorem noDig_nil (s : Str) : noDig s = [] ↔ AllDig s := trim_digits s
theorem lib_TrimDigits (s : Str) (hs : s.length ≤ 9223372036854775807) (w : World) :
  Calls Tryz.prog 177 #[.string ⟨s.toArray⟩, .string ⟨#[48, 49, 50, 51, 52, 53, 54, 55, 56, 57]⟩] w fun e w' => e = .returned (.string ⟨(noDig s).toArray⟩) ∧ Q w w' := by
 refine (Any.strings_Trim_laid Tryz.lays160 (by kernel_rfl) ⟨s.toArray⟩ ⟨#[48, 49, 50, 51, 52, 53, 54, 55, 56, 57]⟩ w hs (by decide) (ascii_of_all (by decide))).mono ?_
 rintro e w' ⟨rfl, h⟩
 exact ⟨rfl, h⟩
end Go.Proofs.YtedijdmenfcjlaaGreatDoor
