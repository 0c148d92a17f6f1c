/-
  An input that fits: a world in which the listed variables hold what their initialisers lay.
-/
import Derived.Test.YtgkikkabmcihhaaGreatDoorOpn
namespace Go.Proofs.YtgkikkabmcihhaaGreatDoor
open Go.ChangeShapes Go.WideShapes Go.ChangeAt Go.RowKit Go.Deep Kp

/-- The cells of plain data. -/
def cells1 : DataW Unit → List Value
  | .lit l => [l.value]
  | _ => []
def cells2 : DataW Unit → List Value
  | .agg l => l.flatMap cells1
  | d => cells1 d
def cells3 : DataW Unit → List Value
  | .agg l => l.flatMap cells2
  | d => cells2 d
def putVar (h : Array Obj) (g : Nat) (cs : List Value) : Array Obj := h.modify g fun
  | .cells _ t frozen => .cells cs.toArray t frozen
  | o => o

noncomputable def laidWorld (os : Os) : World :=
  let N := (World.settled Tryz.prog os).heap.size
  let w0 := World.holding Tryz.prog os ⟨#[.cells #[.string ⟨#[118, 97, 108, 117, 101, 32, 111, 117, 116, 32, 111, 102, 32, 114, 97, 110, 103, 101]⟩] 322, .cells #[.string ⟨#[105, 110, 118, 97, 108, 105, 100, 32, 115, 121, 110, 116, 97, 120]⟩] 322], #[], []⟩
  let h1 := putVar w0.heap 7 (cells3 Rows.laid_math_bits_deBruijn32tab)
  let h2 := putVar h1 8 (cells3 Rows.laid_math_bits_deBruijn64tab)
  let h3 := putVar h2 4 (cells3 Rows.laid_internal_strconv_uint64pow10)
  let h4 := putVar h3 10 (cells3 Rows.laid_unicode_utf8_acceptRanges)
  let h5 := putVar h4 6 [.iface 320 (.pointer (some ⟨N, 0, none⟩))]
  let h6 := putVar h5 5 [.iface 320 (.pointer (some ⟨N + 1, 0, none⟩))]
  let h7 := putVar h6 3 (cells3 Rows.laid_kingpost_root_primes)
  let h7 := putVar h7 0 (cells3 Rows.laid_kingpost_timber_words)
  let h7 := putVar h7 2 (cells3 Rows.laid_kingpost_surd_signPlaces)
  let h8 := putVar h7 9 (cells3 Rows.laid_unicode_utf8_first)
  { w0 with heap := h8 }

/-- The list of the rows of this seat. -/
def rowL : List (String × DataW Unit) := [("math/bits.deBruijn32tab", Rows.laid_math_bits_deBruijn32tab), ("math/bits.deBruijn64tab", Rows.laid_math_bits_deBruijn64tab), ("internal/strconv.uint64pow10", Rows.laid_internal_strconv_uint64pow10), ("unicode/utf8.acceptRanges", Rows.laid_unicode_utf8_acceptRanges), ("strconv.ErrRange", Rows.laid_strconv_ErrRange), ("strconv.ErrSyntax", Rows.laid_strconv_ErrSyntax), ("kingpost/root.primes", Rows.laid_kingpost_root_primes),
  ("kingpost/timber.words", Rows.laid_kingpost_timber_words),
  ("unicode/utf8.first", Rows.laid_unicode_utf8_first)]
theorem listed : Listed rowL where
  plain := by kernel_rfl
  pow10 := by simp [rowL]
  errSyntax := by simp [rowL]
  errRange := by simp [rowL]
  primes := by simp [rowL]
  words := by simp [rowL]
theorem laid_met (os : Os) (args : Array Value) : laidMet Tryz.prog rowL ((laidWorld os).forCall (fun _ _ => 0) ⟨#[], args, []⟩).memory :=
  laidMet_of_run' 10 (by kernel_rfl) (by kernel_rfl)

end Go.Proofs.YtgkikkabmcihhaaGreatDoor
