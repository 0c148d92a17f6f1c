/-
  TimberSlopes answers true for every three bytes and every uint16. The package-level variables that the row lists hold what the program's text lays.
-/
import Derived.Test.YtgkikkabmcihhaaGreatDoorSU2
import Derived.Carry
import Derived.Test.YtgkikkabmcihhaaGreatDoorFSlopes
import Derived.Test.YtgkikkabmcihhaaGreatDoorWit
namespace Go.Proofs.YtgkikkabmcihhaaGreatDoor.slopes
open Go.ChangeShapes Go.WideShapes Go.ChangeAt Go.RowKit Go.Deep Kp

/-- The list of this row. -/
def rowLP : List (String × DataW Unit) := [("math/bits.deBruijn32tab", Rows.laid_math_bits_deBruijn32tab), ("math/bits.deBruijn64tab", Rows.laid_math_bits_deBruijn64tab), ("internal/strconv.uint64pow10", Rows.laid_internal_strconv_uint64pow10), ("unicode/utf8.acceptRanges", Rows.laid_unicode_utf8_acceptRanges), ("strconv.ErrRange", Rows.laid_strconv_ErrRange), ("strconv.ErrSyntax", Rows.laid_strconv_ErrSyntax), ("kingpost/root.primes", Rows.laid_kingpost_root_primes),
  ("kingpost/surd.signPlaces", Rows.laid_kingpost_surd_signPlaces), ("kingpost/timber.words", Rows.laid_kingpost_timber_words), ("unicode/utf8.first", Rows.laid_unicode_utf8_first)]
theorem listedP : Listed rowLP where
  plain := by kernel_rfl
  pow10 := by simp [rowLP]
  errSyntax := by simp [rowLP]
  errRange := by simp [rowLP]
  primes := by simp [rowLP]
  words := by simp [rowLP]
theorem placesIn : ("kingpost/surd.signPlaces", (Rows.laid_kingpost_surd_signPlaces : DataW Unit)) ∈ rowLP := by unfold rowLP; simp
theorem laid_metP (os : Os) (args : Array Value) : laidMet Tryz.prog rowLP ((laidWorld os).forCall (fun _ _ => 0) ⟨#[], args, []⟩).memory :=
  laidMet_of_run' 10 (by kernel_rfl) (by kernel_rfl)

theorem gPlaces : Tryz.prog.globalNamed "kingpost/surd.signPlaces" = some 2 := by kernel_rfl
theorem tPlaces : (Tryz.prog.globals[2]?).map (·.type) = some 172 := by kernel_rfl
theorem cPlaces : Tryz.prog.cellsOf 172 = 3 := by kernel_rfl
theorem cInt : Tryz.prog.cellsOf 3 = 1 := by kernel_rfl

theorem intsAt_of {P : Program} {w : World} {name : String} {g : Nat} {l : List Int} {cs : Array Value} (hg : P.globalNamed name = some g) (hv : w.var? P name = some cs) (hc : cs.toList = l.map fun z => Value.int .i64 z) : ∃ t f, w.heap[g]? = some (.cells (l.map fun z => Value.int .i64 z).toArray t f) := by
  unfold World.var? at hv
  rw [hg] at hv
  simp only [Option.bind_some] at hv
  cases hh : w.heap[g]? with
  | none => rw [hh] at hv; cases hv
  | some o =>
    rw [hh] at hv
    cases o <;> simp at hv
    rename_i c t f
    subst hv
    exact ⟨t, f, by rw [← hc]⟩

theorem PlacesAt.of {W : World} {L : List (String × DataW Unit)} (hl : laidMetH Tryz.prog L W) (hp : (L.all fun x => x.2.handleName?.isNone) = true) (hm : ("kingpost/surd.signPlaces", Rows.laid_kingpost_surd_signPlaces) ∈ L) : PlacesAt W := by
  have hl := (laidMetH_iff.1 hl).1
  rw [List.filter_eq_self.2 (fun x hx => List.all_eq_true.1 hp x hx)] at hl
  obtain ⟨ps, hv, _⟩ := hl
  obtain ⟨g1, t1, cs1, f1, p1, a1, b1, c1, d1⟩ := laidVars_mem hv hm
  obtain rfl := Option.some.inj (a1.symm.trans gPlaces)
  obtain rfl := Option.some.inj (b1.symm.trans tPlaces)
  have e1 : (Rows.laid_kingpost_surd_signPlaces : DataW Unit) = Lib.tabData .i64 [4, 16, 64] := rfl
  rw [e1] at d1
  exact intsAt_of (l := [4, 16, 64]) gPlaces c1 (Lib.cells_of_tab Tryz.underlying172 Tryz.underlying3 cInt cPlaces d1)

set_option maxRecDepth 100000 in
theorem contract (H : Type) (enc : TypeId × Value → H) (W : World) (base : Nat) (args : Array Value) (ds gs : List (DataW H)) (before : List MemPlace)
    (hval : ∀ (j : Nat) t v, Tryz.f9.params[j]? = some t → args[j]? = some v → Value.okWide Tryz.prog W .any base t v)
    (hW : DataW.Whole enc Tryz.prog Tryz.f9.params.toList Rows.timberSlopesSpec.vars false W args.toList ds gs before)
    (hz : (DataW.weightsEach Tryz.prog (Tryz.f9.params.toList ++ (OpenSpec.ofChange Rows.timberSlopesSpec).bare.plain.varTypes Tryz.prog) (ds ++ gs)).all (· ≤ reachBytes) = true)
    (hL : laidMetH Tryz.prog Rows.timberSlopesRow.laid W) (hsh : W.ShapedOpen Tryz.prog) :
    Calls Tryz.prog 9 args W fun e W' => ∃ v, e = .returned v ∧ Rows.timberSlopesSpec.post enc Tryz.prog Tryz.f9 false true false false W args v W' := by
  have hE := Env.of hsh hL listedP
  have hW' := hW
  obtain ⟨p, q, hA0, hV, rfl, -, -⟩ := hW
  have hA : DataW.TrodAll enc Tryz.prog W 0 (fun _ => true) true Tryz.f9.params.toList args.toList ds p := hA0
  rw [Tryz.params9] at hA hval hz
  obtain ⟨rfl, rfl⟩ := trodVars_none hV
  obtain ⟨v0, v1, v2, v3, d0, d1, d2, d3, p0, p1, p2, p3, rfl, rfl, rfl, h0, h1, h2, h3⟩ := trodAll_four hA
  obtain ⟨x0, rfl, rfl, rfl, wf0⟩ := open_int Tryz.underlying5 (hval 0 5 v0 rfl rfl) h0
  obtain ⟨x1, rfl, rfl, rfl, wf1⟩ := open_int Tryz.underlying5 (hval 1 5 v1 rfl rfl) h1
  obtain ⟨x2, rfl, rfl, rfl, wf2⟩ := open_int Tryz.underlying5 (hval 2 5 v2 rfl rfl) h2
  obtain ⟨x3, rfl, rfl, rfl, wf3⟩ := open_int Tryz.underlying53 (hval 3 53 v3 rfl rfl) h3
  refine (slopes_walk x0 x1 x2 x3 (u8_range wf0).1 (u8_range wf0).2 (u8_range wf1).1 (u8_range wf1).2 (u8_range wf2).1 (u8_range wf2).2 (u16_range wf3).1 (u16_range wf3).2 W hE (PlacesAt.of (L := rowLP) hL listedP.plain placesIn)).mono fun e W' ⟨he, hq⟩ => ?_
  subst he
  exact ⟨_, rfl, law_done hW' rfl rfl rfl rfl rfl (by kernel_rfl) hq⟩

theorem reads (os : Os) {H : Type} (enc : TypeId × Value → H) : ∃ places, DataW.whole enc Tryz.prog ((laidWorld os).forCall (fun _ _ => 0) ⟨#[], #[.int .u8 0, .int .u8 0, .int .u8 0, .int .u16 0], []⟩).memory Tryz.f9.params.toList Rows.timberSlopesSpec.vars false #[Value.int .u8 0, Value.int .u8 0, Value.int .u8 0, Value.int .u16 0].toList 8 = some ([.lit (.int .u8 0), .lit (.int .u8 0), .lit (.int .u8 0), .lit (.int .u16 0)], [], places) :=
  ⟨[], by kernel_rfl⟩

set_option maxRecDepth 100000 in
theorem lifted (os : Os) (started : os.Started) (H : Type) (enc : TypeId × Value → H) (F : Stop.Interp) :
    ReturnsInHanded {} Tryz.checked os 9 .any ((OpenSpec.ofChange Rows.timberSlopesSpec).preRow enc Tryz.prog Tryz.f9 Rows.timberSlopesRow.domain false Rows.timberSlopesRow.laid) (((OpenSpec.ofChange Rows.timberSlopesSpec).at F).post enc Tryz.prog Tryz.f9 false true false false) := by
  obtain ⟨places, hx⟩ := reads os enc
  refine returnsInHanded_of_row (C := Tryz.checked) (s := OpenSpec.ofChange Rows.timberSlopesSpec) own started (by kernel_rfl) Tryz.func9
    (witness_row_atRef (enc := enc) (C := Tryz.checked) false (laidWorld os) #[.int .u8 0, .int .u8 0, .int .u8 0, .int .u16 0] rfl (by kernel_rfl) (by kernel_rfl) (by kernel_rfl)
      (OpenSpec.preRow_of_cond 8 hx (by kernel_rfl) (fun k hk => by cases hk) (by kernel_rfl) (laid_metP os _))) ?_
  intro W base args ds gs before hval hW _ _ hz hL hsh _
  exact contract H enc W base args ds gs before hval hW hz hL hsh

theorem said : Rows.TimberSlopesSaid :=
  OpenClaim.holds_of_cond 9 Tryz.f9 rfl rfl rfl rfl rfl rfl rfl ⟨rfl, rfl, rfl, rfl, rfl⟩ rfl rfl rfl rfl rfl named Tryz.func9 facts inst wrap
    (fun os started H enc _ F => by rw [OpenClaim.pre_eq_preRow]; exact lifted os started H enc F)

theorem plain (f : FuncId) (fn : Func) (hf : Tryz.pinned.checked.prog.funcNamed Rows.timberSlopesRow.func = some f) (hfn : Tryz.pinned.checked.prog.funcs[f]? = some fn) :
    true = Tryz.pinned.checked.prog.looks [] ∧ ∀ (j : Nat) t, fn.params[j]? = some t → Tryz.pinned.checked.prog.wantsStandIn t = false := by
  obtain rfl : f = 9 := Option.some.inj (named.symm.trans hf) |>.symm
  obtain rfl : fn = Tryz.f9 := (Option.some.inj (Tryz.func9.symm.trans hfn)).symm
  refine ⟨by kernel_rfl, fun j t ht => ?_⟩
  rw [Tryz.params9] at ht
  have hm : t = 5 ∨ t = 5 ∨ t = 5 ∨ t = 53 := by simpa using Array.mem_of_getElem? ht
  rcases hm with rfl | rfl | rfl | rfl
  · exact (show Tryz.prog.wantsStandIn 5 = false by kernel_rfl)
  · exact (show Tryz.prog.wantsStandIn 5 = false by kernel_rfl)
  · exact (show Tryz.prog.wantsStandIn 5 = false by kernel_rfl)
  · exact (show Tryz.prog.wantsStandIn 53 = false by kernel_rfl)

theorem card : Rows.TimberSlopesCardSaid :=
  Claim7.holds_tied_plain_at .later [] _ _ _ _ said (fun _ h => by cases h) (by kernel_rfl) (fun _ h => by cases h) timberSlopes_row_tie rfl ⟨rfl, rfl⟩ (by kernel_rfl) rfl plain (by kernel_rfl)

end Go.Proofs.YtgkikkabmcihhaaGreatDoor.slopes
