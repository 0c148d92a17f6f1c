/-
  What a row's arguments are, and what it asks behind the call.
-/
import Derived.Test.YtgkikkabmcihhaaGreatDoorFrm
namespace Go.Proofs.YtgkikkabmcihhaaGreatDoor
open Go.ChangeShapes Go.WideShapes Go.ChangeAt Go.RowKit Go.Deep Kp

section
variable {H : Type} {enc : TypeId × Value → H} {P : Program} {w : World} {base : Nat} {spare : Nat → Bool} {held : Bool}
theorem open_slice_fields {t e : TypeId} {fs : Array Field} {fuel : Nat} {cs : List Value} {x : DataW H × List MemPlace} (ht : P.underlying t = some (.slice e)) (he : P.underlying e = some (.struct fs))
    (hone : oneCellFields P fs = true) (hC : P.cellsOf e = fs.size) (h : DataW.trod enc P w base spare held fuel t cs = some x) :
    (cs = [.slice none 0 0] ∧ x = (.nil, [])) ∨
    ∃ (a : Addr) (len cap m : Nat) (D : Nat → DataW H) (Pl : Nat → List MemPlace), cs = [.slice (some a) len cap] ∧ base ≤ a.block ∧ len ≤ cap ∧ cap ≤ maxLen ∧ m = (if spare a.block then cap else len) ∧
      x = (.slice ((List.range len).map D) ((List.range (m - len)).map fun j => D (len + j)), MemPlace.row a (m * fs.size) ++ (List.range m).flatMap Pl) ∧
      ∀ i, i < m → ∃ (ys : List (DataW H × List MemPlace)) (n : Nat), D i = .agg (ys.map (·.1)) ∧ Pl i = ys.flatMap (·.2) ∧ ys.length = fs.size ∧
        ∀ (j : Nat) (f : Field), fs[j]? = some f → ∃ (v : Value) (y : DataW H × List MemPlace), w.cell? (a.add (i * fs.size + j)) = some v ∧ ys[j]? = some y ∧ DataW.trod enc P w base spare held n f.type [v] = some y := by
  rcases open_slice ht h with h0 | ⟨a, len, cap, m, n, D, Pl, hcs, hb, hl, hm, hmm, hx, hi⟩
  · exact .inl h0
  · refine .inr ⟨a, len, cap, m, D, Pl, hcs, hb, hl, hm, hmm, by rw [hC] at hx; exact hx, fun i him => ?_⟩
    obtain ⟨cs', hc, ht'⟩ := hi i him
    rw [hC] at hc
    obtain ⟨ys, n', hn', hy, hlen, hyl, hf⟩ := DataW.trod_struct he ht'
    obtain ⟨_, hcl, hat⟩ := World.cells?_some hc
    simp only [Prod.mk.injEq] at hy
    refine ⟨ys, n', hy.1, hy.2, hyl, fun j f hj => ?_⟩
    obtain ⟨ho, hk⟩ := hone_of hone j f hj
    have hjl : j < fs.size := (Array.getElem?_eq_some_iff.1 hj).1
    have hcell := hat j hjl
    have hv : cs'[j]? = some (cs'[j]'(by omega)) := List.getElem?_eq_getElem (by omega)
    have h1 := hf j f hj
    rw [ho, hk] at h1
    have hone' : (cs'.drop j).take 1 = [cs'[j]'(by omega)] := by
      rw [List.drop_eq_getElem_cons (by omega)]
      rfl
    rw [hone'] at h1
    have hys : ys[j]? = some (ys[j]'(by omega)) := List.getElem?_eq_getElem (by omega)
    refine ⟨_, _, ?_, hys, h1.trans hys⟩
    rw [← Go.Deep.add_add, hcell, hv]

theorem trodAll_below (hl : laidOutB P = true) {W W' : World} (hb : Below W.heap.size W W') :
    ∀ {ts : List TypeId} {vs : List Value} {ds : List (DataW H)} {ps : List MemPlace}, (ts.all fun t => P.readableRec t && decide (t < P.types.size)) = true → DataW.TrodAll enc P W 0 (fun _ => true) true ts vs ds ps → (∀ x ∈ ps, x.block < W.heap.size) →
      DataW.TrodAll enc P W' 0 (fun b => decide (b < W.heap.size)) true ts vs ds ps
  | [], vs, ds, ps, _, h, _ => by
    obtain ⟨rfl, rfl, rfl⟩ := trodAll_nil h
    exact trodAll_mk0
  | t :: ts, vs, ds, ps, ht, h, hlt => by
    obtain ⟨v, vs', d, ds', p, q, rfl, rfl, rfl, h1, h2⟩ := trodAll_cons h
    simp only [List.all_cons, Bool.and_eq_true, decide_eq_true_eq] at ht
    exact trodAll_cons_mk (Below.trod hl ht.1.1 ht.1.2 h1 hb (fun x hx => hlt x (by simp [hx]))) (trodAll_below hl hb ht.2 h2 (fun x hx => hlt x (by simp [hx])))
end

/-- A law of this seat: what is left behind the walk. -/
theorem law_done {H : Type} {enc : TypeId × Value → H} {fn : Func} {s : ChangeSpec} {W W' : World} {args : Array Value} {ds gs : List (DataW H)} {before : List MemPlace}
    (hW : DataW.Whole enc Tryz.prog fn.params.toList s.vars false W args.toList ds gs before) (hrt : fn.resultTypes = #[4]) (hv : s.vars = [])
    (hres : (s.fn H (ds ++ gs)).results = [.lit (.bool true)]) (hargs : (s.fn H (ds ++ gs)).args = ds) (hvars : (s.fn H (ds ++ gs)).vars = [])
    (hty : (fn.params.toList.all fun t => Tryz.prog.readableRec t && decide (t < Tryz.prog.types.size)) = true) (hb : Below W.heap.size W W') :
    s.post enc Tryz.prog fn false true false false W args (.bool true) W' := by
  have hW' := hW
  obtain ⟨p, q, hA, hV, rfl, _, _⟩ := hW
  rw [hv] at hV
  obtain ⟨rfl, rfl⟩ := trodVars_none hV
  have hlt : ∀ x ∈ p, x.block < W.heap.size := fun x hx => hW'.lt x (by simp [hx])
  refine ⟨ds, [], p ++ [], [], p, [], hW', ?_, ?_, ?_, ?_, fun h => by cases h⟩
  · rw [hres, hrt]; exact trodAll_mk1 (shut_bool Tryz.underlying4 true)
  · rw [hargs]; exact trodAll_below laidOut hb hty hA hlt
  · rw [hvars, hv]; exact rfl
  · exact hb.frame _

theorem pick_sizes {C : Nat → Sz → Prop} : ∀ (n : Nat), (∀ i, i < n → ∃ s, C i s) → ∃ l : List Sz, l.length = n ∧ ∀ i, i < n → C i (l.getD i ⟨0, 0, 0⟩)
  | 0, _ => ⟨[], rfl, fun i hi => absurd hi (Nat.not_lt_zero _)⟩
  | n + 1, h => by
    obtain ⟨l, hl, hc⟩ := pick_sizes n (fun i hi => h i (by omega))
    obtain ⟨s, hs⟩ := h n (by omega)
    refine ⟨l ++ [s], by simp [hl], fun i hi => ?_⟩
    by_cases e : i = n
    · subst e
      rw [List.getD_eq_getElem?_getD, List.getElem?_append_right (by omega), hl]; simpa using hs
    · rw [List.getD_eq_getElem?_getD, List.getElem?_append_left (by omega), ← List.getD_eq_getElem?_getD]; exact hc i (by omega)

theorem sizeFields : Tryz.prog.underlying 35 = some (.struct (Tryz.prog.fieldsOf 35)) := by kernel_rfl
theorem sizeOne : oneCellFields Tryz.prog (Tryz.prog.fieldsOf 35) = true := by kernel_rfl
theorem sizeThree : (Tryz.prog.fieldsOf 35).size = 3 := by kernel_rfl
theorem sizeCells : Tryz.prog.cellsOf 35 = (Tryz.prog.fieldsOf 35).size := by kernel_rfl
theorem sizeT : (Tryz.prog.fieldsOf 35).map (·.type) = #[3, 3, 3] := by kernel_rfl
theorem field_at {fs : Array Field} {a b c : TypeId} (h : fs.map (·.type) = #[a, b, c]) : (∃ f, fs[0]? = some f ∧ f.type = a) ∧ (∃ f, fs[1]? = some f ∧ f.type = b) ∧ (∃ f, fs[2]? = some f ∧ f.type = c) := by
  have key : ∀ (i : Nat) (t : TypeId), (#[a, b, c])[i]? = some t → ∃ f, fs[i]? = some f ∧ f.type = t := fun i t ht => by
    rw [← h, Array.getElem?_map] at ht
    exact Option.map_eq_some_iff.1 ht
  exact ⟨key 0 a rfl, key 1 b rfl, key 2 c rfl⟩

theorem sizeBytes : Tryz.prog.bytesOf 35 = 24 := by kernel_rfl
set_option maxRecDepth 100000 in
/-- A slice of sizes that came in. -/
theorem open_sizes {H : Type} {enc : TypeId × Value → H} {W : World} {b0 : Nat} {v : Value} {d : DataW H} {p : List MemPlace} {sp : Nat → Bool} {held : Bool}
    (hok : Value.okWide Tryz.prog W .any b0 31 v) (h : DataW.Trod enc Tryz.prog W 0 sp held 31 v d p)
    (hsz : ∀ elems spare, d = .slice elems spare → (elems.length + spare.length) * Tryz.prog.bytesOf 35 ≤ reachBytes) : ∃ l : List Sz, SzSl W v l ∧ l.length < 4611686018427387904 := by
  obtain ⟨a0, len0, cap0, rfl⟩ := okWide_slice Tryz.underlying31 hok
  obtain ⟨fuel, hf⟩ := h
  rcases open_slice_fields Tryz.underlying31 sizeFields sizeOne sizeCells hf with ⟨hcs, _⟩ | ⟨a, len, cap, m, D, Pl, hcs, _, hl, hm, hmm, hx, hi⟩
  · simp [Value.cells] at hcs
    obtain ⟨rfl, rfl, rfl⟩ := hcs
    refine ⟨[], ⟨none, 0, rfl, ?_⟩, ?_⟩
    · intro i hi; exact absurd hi (Nat.not_lt_zero _)
    · rw [List.length_nil]; omega
  · simp [Value.cells] at hcs
    obtain ⟨rfl, rfl, rfl⟩ := hcs
    have hlm : len0 ≤ m := by rw [hmm]; split <;> omega
    obtain ⟨⟨f0, h0, t0⟩, ⟨f1, h1, t1⟩, ⟨f2, h2, t2⟩⟩ := field_at sizeT
    have key : ∀ i, i < len0 → ∃ s : Sz, W.cell? (a.add (i * 3)) = some (.int .i64 s.k) ∧ W.cell? (a.add (i * 3 + 1)) = some (.int .i64 s.w) ∧ W.cell? (a.add (i * 3 + 2)) = some (.int .i64 s.d) := fun i hil => by
      obtain ⟨ys, n, _, _, _, hc⟩ := hi i (by omega)
      rw [sizeThree] at hc
      obtain ⟨v0, y0, c0, _, r0⟩ := hc 0 f0 h0
      obtain ⟨v1, y1, c1, _, r1⟩ := hc 1 f1 h1
      obtain ⟨v2, y2, c2, _, r2⟩ := hc 2 f2 h2
      rw [t0] at r0; rw [t1] at r1; rw [t2] at r2
      obtain ⟨n0, e0, _⟩ := DataW.trod_int Tryz.underlying3 r0
      obtain ⟨n1, e1, _⟩ := DataW.trod_int Tryz.underlying3 r1
      obtain ⟨n2, e2, _⟩ := DataW.trod_int Tryz.underlying3 r2
      simp only [List.cons.injEq, and_true] at e0 e1 e2
      subst e0; subst e1; subst e2
      exact ⟨⟨n0, n1, n2⟩, c0, c1, c2⟩
    obtain ⟨l, hll, hc⟩ := pick_sizes len0 key
    refine ⟨l, ⟨some a, cap0, by rw [hll], fun i hil => ?_⟩, by
      simp only [Prod.mk.injEq] at hx
      have h3 := hsz _ _ hx.1
      rw [sizeBytes] at h3
      simp only [List.length_map, List.length_range, reachBytes] at h3
      omega⟩
    obtain ⟨b, o, spot⟩ := a
    obtain ⟨z0, _, _⟩ := hc 0 (by omega)
    have hs : spot = none := by simpa [Addr.add] using World.cell?_spot z0
    subst hs
    obtain ⟨c0, c1, c2⟩ := hc i (by omega)
    rw [Addr.add_lit] at c0 c1 c2
    have hb : b < W.heap.size := World.block_lt_of_cell? W _ c0
    exact ⟨b, o, rfl, hb, c0, c1, c2⟩

end Go.Proofs.YtgkikkabmcihhaaGreatDoor
