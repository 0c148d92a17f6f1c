/-
  Loops over an iterator that counts upward; the sides of a plan.; What makes a plan valid, as the program asks it. Mathematics.; hiprafter.Check at any member whose coordinates are short strings; its walk.; Fronts of the sides of a plan, rafters at an eaves, birdsmouths. Mathematics.
-/
import Derived.Test.YtohonlboaddppaaGreatDoorSQ
namespace Go.Proofs.YtohonlboaddppaaGreatDoor
open Go.RowKit Kp
def SeqNextS {α : Type} (m : Nat) (P : Program) (gf : Nat) (lb : Array Value) (encs : α → Array Value) (bs : List Nat) (Pc : List α → World → Prop) (nx : List α → α → Prop) (S Sp : List α → Prop) (w : World) : Prop :=
  ∀ (l : Nat) (J Jx : List α → World → Prop) (W : World), Below w.heap.size w W → (∀ pre W, J pre W → Pc pre W) → (∀ pre W W', J pre W → Q W W' → J pre W') →
    (∀ pre x W1, J pre W1 → nx pre x → YieldAt Fence.wide (m - 1) P l (encs x) W1 fun e W' =>
      (e = .returned (.bool true) ∧ J (pre ++ [x]) W' ∧ KeepB bs W1 W') ∨ (e = .returned (.bool false) ∧ Jx (pre ++ [x]) W')) →
    J [] W →
    CallsIn Fence.wide m P gf (#[.func (.yield l) #[] #[]] ++ lb) W fun e W' => (∃ v, e = .returned v) ∧ ((∃ xs, S xs ∧ J xs W') ∨ (∃ pre, Sp pre ∧ Jx pre W'))
section
variable {α : Type} {P : Program} {g : Operand} {ps : Array Tmp} {assign body : Code} {R : Exit → Act → World → Prop} {a : Act} {w : World} {m gf : Nat} {lb : Array Value} {bs : List Nat}
theorem wpIn_rangeFunc_nextS (hm : 1 ≤ m) (hg : a.eval g = .func (.func gf) #[] lb) (eg : ∀ args w, (callFunc gf args).run P w = .ok (.enter gf args) w)
    {encs : α → Array Value} {Pc : List α → World → Prop} {nx : List α → α → Prop} {S Sp : List α → Prop} (hseq : SeqNextS (m - 1) P gf lb encs bs Pc nx S Sp w) (hbs : ∀ k ∈ bs, k < w.heap.size) (hps : ∀ x, (encs x).size = ps.size)
    (I : List α → World → Prop) (Ix : Code → List α → World → Prop) (hPc : ∀ pre W, I pre W → Pc pre W) (hI : Stays w.heap.size I) (hIx : ∀ c, Stays w.heap.size (Ix c)) (h0 : I [] w) (AS : α → Act → World → Prop) (hAS : ∀ x a1 W W', AS x a1 W → KC W W' → AS x a1 W')
    (hassign : ∀ (l : Nat) (x : α) (W : World) (K : Act → World → Prop), w.heap.size ≤ W.heap.size → (∀ a1 W', Q W W' → AS x a1 W' → K a1 W') →
      assign.wpIn (Fence.wide.inRound l) (m - 1 - 1) P (Exit.then K (fun _ _ _ => False)) { tmps := (ps.zip (encs x)).foldl (fun t (p, v) => t.setIfInBounds p v) a.tmps, defers := [] } W)
    (hbody : ∀ (l : Nat) (pre : List α) (x : α) (a1 : Act) (W : World), I pre W → nx pre x → AS x a1 W → body.wpIn (Fence.wide.inRound l) (m - 1 - 1) P (roundEnd w.heap.size bs I Ix (pre ++ [x]) W) a1 W)
    (hdone : ∀ (D : Nat) (xs : List α) (W : World), w.heap.size ≤ D → S xs → I xs W → W.heap[D]? = some (.deferred (some [])) → R .normal { a with defers := { target := .collected D, args := #[] } :: a.defers } W)
    (hstop : ∀ (D : Nat) (c : Code) (pre : List α) (W : World), w.heap.size ≤ D → Sp pre → Ix c pre W → W.heap[D]? = some (.deferred (some [])) → c.wpIn Fence.wide m P R { a with defers := { target := .collected D, args := #[] } :: a.defers } W) :
    (Code.rangeFunc g ps assign body).wpIn Fence.wide m P R a w := by
  refine wpIn_rangeFunc fun fn hfn => ?_
  obtain ⟨D, hD⟩ : ∃ D, w.heap.size = D := ⟨_, rfl⟩
  let rec0 : LoopState → Option Code → Loop := fun st pe => { state := st, pending := pe, fn, tmps := a.tmps, params := ps, assign, body, defers := D }
  let W1 := (w.alloc (.deferred (some []))).alloc (.loop (rec0 .ready none))
  have hsz : W1.heap.size = D + 2 := by simp [W1, hD]
  have kD : W1.heap[D]? = some (.deferred (some [])) := by
    rw [← hD]; exact (Below.heap_alloc _ _ _ (by simp)).trans (World.alloc_heap_new w _)
  have kL : W1.heap[D + 1]? = some (.loop (rec0 .ready none)) := by
    rw [← hD]; have := World.alloc_heap_new (w.alloc (.deferred (some []))) (.loop (rec0 .ready none)); rwa [World.size_alloc] at this
  have hb1 : Below w.heap.size w W1 := ((Below.refl _ w).alloc (Nat.le_refl _) _).alloc (by simp) _
  have hI1 : I [] W1 := hI _ _ _ h0 ((KC.alloc _ _).trans (KC.alloc _ _)) hb1
  rw [hD] at hI hIx
  have put : ∀ {I' : List α → World → Prop} {s : List α} {W : World} {o : Obj} (o' : Obj), Stays D I' → I' s W → W.heap[D + 1]? = some o → o.isCells = false → I' s (W.putObj (D + 1) o') :=
    fun o' hS h hk hc => hS _ _ _ h (KC.put o' hk hc) (below_put (by omega) hk o')
  have same : ∀ {W : World} {o : Obj} (o' : Obj), W.heap[D + 1]? = some o → (W.putObj (D + 1) o').heap[D + 1]? = some o' := fun o' hk => World.putObj_heap_same (Array.getElem?_eq_some_iff.1 hk).1
  have keepD : ∀ {W : World} {o : Obj} (o' : Obj), W.heap[D]? = some o → (W.putObj (D + 1) o').heap[D]? = some o := fun o' hk => (World.putObj_heap_other (by omega)).trans hk
  refine ⟨D + 1, [{ target := .collected D, args := #[] }], W1, { target := .fn (.func gf) lb, args := #[.func (.yield (D + 1)) #[] #[]] }, W1, gf, #[.func (.yield (D + 1)) #[] #[]] ++ lb, W1, ?_, ?_, fun _ _ => trivial, ?_, fun _ => hm, ?_⟩
  · have := run_enterLoop_outer (P := P) (w := w) fn a.tmps ps assign body
    rw [hD] at this
    exact this
  · simp only [resolve, hg]
    simp [go_sem]
  · simp [invoke, go_sem, eg]
  refine (hseq (D + 1) (fun pre W => I pre W ∧ W.heap[D + 1]? = some (.loop (rec0 .ready none)) ∧ W.heap[D]? = some (.deferred (some [])))
    (fun pre W => ∃ c, Ix c pre W ∧ W.heap[D + 1]? = some (.loop (rec0 .done (some c))) ∧ W.heap[D]? = some (.deferred (some []))) W1 hb1 (fun pre W h => hPc pre W h.1) (fun pre W W' h hq => ⟨hI _ _ _ h.1 (KC.q hq) (hq.mono (Nat.le_of_lt (Array.getElem?_eq_some_iff.1 h.2.2).1)), (hq.block _ (Array.getElem?_eq_some_iff.1 h.2.1).1).trans h.2.1, (hq.block _ (Array.getElem?_eq_some_iff.1 h.2.2).1).trans h.2.2⟩) ?_ ⟨hI1, kL, kD⟩).mono ?_
  · rintro pre x W ⟨hi, hl, hk⟩ hnx
    have hy := run_yield (P := P) (args := encs x) hl (hps x)
    have hDW : D + 1 < W.heap.size := (Array.getElem?_eq_some_iff.1 hl).1
    refine ⟨fn, _, assign, body, hy, roundIn_of_wpIn hfn (hassign _ x W _ (by omega) fun a1 Wa hqa hAs => ?_)⟩
    have hla := (hqa.block _ hDW).trans hl
    have hka := (hqa.block D (by omega)).trans hk
    have hia := hI _ _ _ hi (KC.q hqa) (hqa.mono (by omega))
    refine ⟨_, run_beginRound hla rfl, ?_⟩
    have hl2 := same (.loop { rec0 .ready none with state := .busy }) hla
    have hk2 := keepD (.loop { rec0 .ready none with state := .busy }) hka
    have hbs' : ∀ k ∈ bs, k < D + 1 := fun k hk => by have := hbs k hk; omega
    have hw2 : KeepB bs W (Wa.putObj (D + 1) (.loop { rec0 .ready none with state := .busy })) := (KeepB.q hqa).trans (KeepB.put hbs' _ _)
    refine wpIn_mono (hbody _ pre x a1 _ (put _ hI hia hla rfl) hnx (hAS _ _ _ _ hAs (KC.put _ hla rfl))) ?_
    have fin : ∀ (jump : Option Code) (W3 : World), KeepsFrom w.heap.size (Wa.putObj (D + 1) (.loop { rec0 .ready none with state := .busy })) W3 →
        (Instr.endRound (D + 1) jump).run P W3 = .ok (.bool jump.isNone) (W3.putObj (D + 1) (.loop (rec0 (if jump.isNone then .ready else .done) jump))) ∧
        W3.heap[D + 1]? = some (.loop { rec0 .ready none with state := .busy }) ∧ W3.heap[D]? = some (.deferred (some [])) := fun jump W3 hk3 => by
      have hl3 := hk3.same _ _ (by omega) hl2 rfl
      exact ⟨run_endRound (P := P) jump hl3, hl3, hk3.same _ _ (by omega) hk2 rfl⟩
    rintro e a3 W3 hp
    cases e with
    | normal =>
      obtain ⟨hk3, hb3, hi3⟩ := hp
      obtain ⟨hr, hl3, hd3⟩ := fin none W3 hk3
      exact ⟨_, _, hr, .inl ⟨rfl, ⟨put _ hI hi3 hl3 rfl, same _ hl3, keepD _ hd3⟩, (hw2.trans hb3).trans (KeepB.put hbs' _ _)⟩⟩
    | ret =>
      obtain ⟨hr, hl3, hd3⟩ := fin (some .ret) W3 hp.1
      exact ⟨_, _, hr, .inr ⟨rfl, .ret, put _ (hIx _) hp.2 hl3 rfl, same _ hl3, keepD _ hd3⟩⟩
    | exit id =>
      obtain ⟨hr, hl3, hd3⟩ := fin (some (.exit id)) W3 hp.1
      exact ⟨_, _, hr, .inr ⟨rfl, .exit id, put _ (hIx _) hp.2 hl3 rfl, same _ hl3, keepD _ hd3⟩⟩
    | goto t =>
      obtain ⟨hr, hl3, hd3⟩ := fin (some (.goto t)) W3 hp.1
      exact ⟨_, _, hr, .inr ⟨rfl, .goto t, put _ (hIx _) hp.2 hl3 rfl, same _ hl3, keepD _ hd3⟩⟩
    | panic ch => exact hp.elim
    | outgrown => exact hp.elim
  · rintro e W2 ⟨⟨v, rfl⟩, (⟨xs, hS, hi, hl, hk⟩ | ⟨pre, hSp, c, hi, hl, hk⟩)⟩
    · exact ⟨none, _, run_endLoop (P := P) hl (by simp [rec0]), hdone D xs _ (by omega) hS (put _ hI hi hl rfl) (keepD _ hk)⟩
    · exact ⟨some c, _, run_endLoop (P := P) hl (by simp [rec0]), hstop D c pre _ (by omega) hSp (put _ (hIx c) hi hl rfl) (keepD _ hk)⟩
end
def roundUp (B : Nat) (bs : List Nat) (I : Nat → World → Prop) (Ix : Code → World → Prop) (k : Nat) (W : World) : Exit → Act → World → Prop
  | .normal, _, W' => KeepsFrom B W W' ∧ KeepB bs W W' ∧ I k W'
  | .ret, _, W' => KeepsFrom B W W' ∧ Ix .ret W'
  | .exit id, _, W' => KeepsFrom B W W' ∧ Ix (.exit id) W'
  | .goto t, _, W' => KeepsFrom B W W' ∧ Ix (.goto t) W'
  | .panic _, _, _ => False
  | .outgrown, _, _ => False
section
variable {P : Program} {g : Operand} {ps : Array Tmp} {assign body : Code} {R : Exit → Act → World → Prop} {a : Act} {w : World} {m gf N : Nat} {lb : Array Value} {bs : List Nat}
theorem wpIn_rangeFunc_up (hm : 1 ≤ m) (hg : a.eval g = .func (.func gf) #[] lb) (eg : ∀ args w, (callFunc gf args).run P w = .ok (.enter gf args) w)
    {encs : PlN N → Array Value} (hseq : SeqNextS (m - 1) P gf lb encs bs (fun _ _ => True) nxUp (fun ys => UpN N ys) (fun pre => ∃ k, k ≤ N ∧ UpN k pre) w) (hbs : ∀ k ∈ bs, k < w.heap.size) (hps : ∀ x, (encs x).size = ps.size)
    (I : Nat → World → Prop) (Ix : Code → World → Prop) (hI : ∀ k W W', I k W → KC W W' → Below w.heap.size W W' → I k W') (hIx : ∀ c W W', Ix c W → KC W W' → Below w.heap.size W W' → Ix c W') (h0 : I 0 w) (AS : PlN N → Act → World → Prop) (hAS : ∀ x a1 W W', AS x a1 W → KC W W' → AS x a1 W')
    (hassign : ∀ (l : Nat) (x : PlN N) (W : World) (K : Act → World → Prop), w.heap.size ≤ W.heap.size → (∀ a1 W', Q W W' → AS x a1 W' → K a1 W') →
      assign.wpIn (Fence.wide.inRound l) (m - 1 - 1) P (Exit.then K (fun _ _ _ => False)) { tmps := (ps.zip (encs x)).foldl (fun t (p, v) => t.setIfInBounds p v) a.tmps, defers := [] } W)
    (hbody : ∀ (l k : Nat) (hk : k < N) (a1 : Act) (W : World), I k W → AS ⟨k, hk⟩ a1 W → body.wpIn (Fence.wide.inRound l) (m - 1 - 1) P (roundUp w.heap.size bs I Ix (k + 1) W) a1 W)
    (hdone : ∀ (D : Nat) (W : World), w.heap.size ≤ D → I N W → W.heap[D]? = some (.deferred (some [])) → R .normal { a with defers := { target := .collected D, args := #[] } :: a.defers } W)
    (hstop : ∀ (D : Nat) (c : Code) (W : World), w.heap.size ≤ D → Ix c W → W.heap[D]? = some (.deferred (some [])) → c.wpIn Fence.wide m P R { a with defers := { target := .collected D, args := #[] } :: a.defers } W) :
    (Code.rangeFunc g ps assign body).wpIn Fence.wide m P R a w := by
  refine wpIn_rangeFunc_nextS hm hg eg hseq hbs hps (fun pre W => I pre.length W) (fun c _ W => Ix c W) (fun _ _ _ => trivial) (fun pre W W' h k hb => hI _ W W' h k hb) (fun c _ W W' h k hb => hIx c W W' h k hb) h0 AS hAS hassign ?_ ?_ ?_
  · intro l pre x a1 W hi hx hs
    obtain ⟨k, hk⟩ := x
    have e : pre.length = k := hx.symm
    subst e
    refine wpIn_mono (hbody l pre.length hk a1 W hi hs) ?_
    intro e a3 W3 hp
    cases e with
    | normal => exact ⟨hp.1, hp.2.1, by
      show I (pre ++ [_]).length W3
      rw [List.length_append, List.length_singleton]; exact hp.2.2⟩
    | ret => exact hp
    | exit id => exact hp
    | goto t => exact hp
    | panic ch => exact hp
    | outgrown => exact hp
  · intro D xs W hD hS hi hk
    exact hdone D W hD (by rw [hS.len] at hi; exact hi) hk
  · intro D c pre W hD hSp hi hk
    exact hstop D c W hD hi hk
end
structure Sd where
  x : Int
  y : Int
  rise : Int
  run : Int
  gable : Bool
  plate : Int
  over : Int
def sdC (s : Sd) : List Value := [.int .i64 s.x, .int .i64 s.y, .int .i64 s.rise, .int .i64 s.run, .bool s.gable, .int .i64 s.plate, .int .i64 s.over]
def sd0 : Sd := ⟨0, 0, 0, 0, false, 0, 0⟩
def sdAt (r : List Sd) (i : Nat) : Sd := r.getD i sd0
structure Arn where
  b : Sd
  o : Sd
  h : Sd
def arn (r : List Sd) (i : Nat) : Arn := ⟨sdAt r ((i + r.length - 1) % r.length), sdAt r i, sdAt r ((i + 1) % r.length)⟩
def arnC (a : Arn) : List Value := sdC a.b ++ sdC a.o ++ sdC a.h
def RgSl (w : World) (v : Value) (R : List (List Sd)) : Prop := ∃ a cap, v = .slice a R.length cap ∧ ∀ i (h : i < R.length), ∃ b o vi, a = some ⟨b, o, none⟩ ∧ b < w.heap.size ∧ w.cell? ⟨b, o + i, none⟩ = some vi ∧ RowSl 7 sdC w vi R[i]
theorem RgSl.keep {w w' : World} {v : Value} {R : List (List Sd)} (h : RgSl w v R) (hq : Q w w') : RgSl w' v R := by
  obtain ⟨a, cap, rfl, hc⟩ := h
  refine ⟨a, cap, rfl, fun i hi => ?_⟩
  obtain ⟨b, o, vi, ha, hb, h, hr⟩ := hc i hi
  exact ⟨b, o, vi, ha, Nat.lt_of_lt_of_le hb hq.size, (hq.cell (p := ⟨b, o + i, none⟩) hb).trans h, hr.keep hq⟩
def rangedF (s : Sd) : Bool := (if s.gable then s.rise == 0 && s.run == 0 else decide (1 ≤ s.rise) && decide (s.rise ≤ 48) && (decide (1 ≤ s.run) && decide (s.run ≤ 48))) &&
  (decide (0 ≤ s.x) && decide (s.x ≤ 65536) && (decide (0 ≤ s.y) && decide (s.y ≤ 65536)) && (decide (0 ≤ s.plate) && decide (s.plate ≤ 65536)) && (decide (0 ≤ s.over) && decide (s.over ≤ 65536)))
structure Rgd (s : Sd) : Prop where
  x0 : 0 ≤ s.x
  x1 : s.x ≤ 65536
  y0 : 0 ≤ s.y
  y1 : s.y ≤ 65536
  p0 : 0 ≤ s.plate
  p1 : s.plate ≤ 65536
  o0 : 0 ≤ s.over
  o1 : s.over ≤ 65536
  g : s.gable = true → s.rise = 0 ∧ s.run = 0
  n : s.gable = false → 1 ≤ s.rise ∧ s.rise ≤ 48 ∧ 1 ≤ s.run ∧ s.run ≤ 48
theorem rgd_of {s : Sd} (h : rangedF s = true) : Rgd s := by
  obtain ⟨x, y, rise, run, gable, plate, over⟩ := s
  unfold rangedF at h
  simp only [Bool.and_eq_true, decide_eq_true_eq] at h
  obtain ⟨h0, ⟨⟨⟨h1, h2⟩, h3, h4⟩, h5, h6⟩, h7, h8⟩ := h
  refine ⟨h1, h2, h3, h4, h5, h6, h7, h8, fun hg => ?_, fun hg => ?_⟩
  · simp only at hg
    subst hg
    simpa using h0
  · simp only at hg
    subst hg
    simp only [Bool.false_eq_true, if_false, Bool.and_eq_true, decide_eq_true_eq] at h0
    exact ⟨h0.1.1, h0.1.2, h0.2.1, h0.2.2⟩
end Go.Proofs.YtohonlboaddppaaGreatDoor
namespace Go.Proofs.YtohonlboaddppaaGreatDoor
open Go.RowKit Kp
theorem range_any_succ (f : Nat → Bool) (k : Nat) : (List.range (k + 1)).any f = ((List.range k).any f || f k) := by rw [List.range_succ, List.any_append]; simp
def crossI (a b c d : Int) : Int := a * d - b * c
def Arn.vx (a : Arn) : Int := a.o.x - a.b.x
def Arn.vy (a : Arn) : Int := a.o.y - a.b.y
def Arn.wx (a : Arn) : Int := a.h.x - a.o.x
def Arn.wy (a : Arn) : Int := a.h.y - a.o.y
def leftF (a : Arn) : Bool := decide (0 < crossI a.vx a.vy a.wx a.wy)
def bentF (a : Arn) : Bool := ((a.wx == 0) == (a.wy == 0)) || ((a.vx == 0) == (a.wx == 0))
def shapedF (r : List Sd) : Bool := decide (4 ≤ r.length) && (List.range r.length).all fun i => !bentF (arn r i)
def areaN (r : List Sd) : Nat → Int
  | 0 => 0
  | k + 1 => areaN r k + crossI (arn r k).o.x (arn r k).o.y (arn r k).h.x (arn r k).h.y
def passF (a : Arn) (px py : Int) : Bool := (a.wx == 0) && (decide (px < a.o.x) && ((decide (py < a.o.y)) != (decide (py < a.h.y))))
def insideN (r : List Sd) (px py : Int) : Nat → Bool
  | 0 => false
  | k + 1 => if passF (arn r k) px py then !insideN r px py k else insideN r px py k
structure Bx where
  lx : Int
  ly : Int
  hx : Int
  hy : Int
def boxF (a : Arn) : Bx := ⟨min a.o.x a.h.x, min a.o.y a.h.y, max a.o.x a.h.x, max a.o.y a.h.y⟩
def meetsF (a b : Bx) : Bool := decide (a.lx ≤ b.hx) && (decide (b.lx ≤ a.hx) && (decide (a.ly ≤ b.hy) && decide (b.ly ≤ a.hy)))
def ringB (r : List Sd) (n : Nat) : List (Bx × Nat × Nat) := (List.range r.length).map fun i => (boxF (arn r i), n, i)
def boxesN (R : List (List Sd)) : Nat → List (Bx × Nat × Nat)
  | 0 => []
  | k + 1 => boxesN R k ++ ringB (R.getD k []) k
def boxAt (l : List (Bx × Nat × Nat)) (i : Nat) : Bx × Nat × Nat := l.getD i (⟨0, 0, 0, 0⟩, 0, 0)
def touchF (R : List (List Sd)) (a b : Bx × Nat × Nat) : Bool := !((a.2.1 == b.2.1) && ((((a.2.2 : Int) - b.2.2 == 1) || ((a.2.2 : Int) - b.2.2 == ((R.getD a.2.1 []).length : Int) - 1)))) && meetsF a.1 b.1
def crossedF (R : List (List Sd)) : Bool := (List.range (boxesN R R.length).length).any fun i => (List.range i).any fun k => touchF R (boxAt (boxesN R R.length) i) (boxAt (boxesN R R.length) k)
def ringAt (R : List (List Sd)) (i : Nat) : List Sd := R.getD i []
def lieF (R : List (List Sd)) (i k : Nat) : Bool := (k == i) || ((i == 0) || (insideN (ringAt R k) (sdAt (ringAt R i) 0).x (sdAt (ringAt R i) 0).y (ringAt R k).length == (k == 0)))
def placedF (R : List (List Sd)) : Bool := (List.range R.length).all fun i => (decide (0 < areaN (ringAt R i) (ringAt R i).length) == (i == 0)) && (List.range R.length).all fun k => lieF R i k
def stepF (a : Arn) : Bool := leftF a || !(a.o.gable || (a.b.gable || (a.o.plate != a.b.plate)))
def joinF (r : List Sd) : Bool := (List.range r.length).all fun i => stepF (arn r i)
def someF (r : List Sd) : Bool := (List.range r.length).any fun i => !(arn r i).o.gable
def joinedF (R : List (List Sd)) : Bool := ((List.range R.length).all fun i => joinF (ringAt R i)) && (List.range R.length).any fun i => someF (ringAt R i)
def countF (R : List (List Sd)) : Nat := (R.map List.length).sum
def planE (R : List (List Sd)) : Int :=
  if (R.any fun r => decide (r.length = 0)) = true then 5
  else if countF R = 0 then 5
  else if 24 < countF R then 4
  else if (R.flatten.any fun s => !rangedF s) = true then 2
  else if (R.any fun r => !shapedF r) = true then 14
  else if crossedF R = true then 15
  else if (!placedF R || !joinedF R) = true then 14
  else 0
structure PlanOk (R : List (List Sd)) : Prop where
  rg : ∀ s ∈ R.flatten, Rgd s
  four : ∀ r ∈ R, 4 ≤ r.length
  le : countF R ≤ 24
  pos : 0 < countF R
theorem planE_ok {R : List (List Sd)} (h : planE R = 0) : PlanOk R := by
  unfold planE at h
  by_cases h1 : (R.any fun r => decide (r.length = 0)) = true
  · rw [if_pos h1] at h; omega
  rw [if_neg h1] at h
  by_cases h2 : countF R = 0
  · rw [if_pos h2] at h; omega
  rw [if_neg h2] at h
  by_cases h3 : 24 < countF R
  · rw [if_pos h3] at h; omega
  rw [if_neg h3] at h
  by_cases h4 : (R.flatten.any fun s => !rangedF s) = true
  · rw [if_pos h4] at h; omega
  rw [if_neg h4] at h
  by_cases h5 : (R.any fun r => !shapedF r) = true
  · rw [if_pos h5] at h; omega
  refine ⟨fun s hs => rgd_of ?_, fun r hr => ?_, by omega, by omega⟩
  · rcases hb : rangedF s with _ | _
    · exact absurd (List.any_eq_true.2 ⟨s, hs, by rw [hb]; rfl⟩) h4
    · rfl
  · rcases hb : shapedF r with _ | _
    · exact absurd (List.any_eq_true.2 ⟨r, hr, by rw [hb]; rfl⟩) h5
    · unfold shapedF at hb
      simp only [Bool.and_eq_true, decide_eq_true_eq] at hb
      exact hb.1
end Go.Proofs.YtohonlboaddppaaGreatDoor
namespace Go.Proofs.YtohonlboaddppaaGreatDoor
open Go.RowKit Kp
structure Mb where
  kind : Int
  face : Int
  other : Int
  fx : Str
  fy : Str
  fz : Str
  tx : Str
  ty : Str
  tz : Str
  wid : Int
  dep : Int
def mbC (m : Mb) : List Value := [.int .i64 m.kind, .int .i64 m.face, .int .i64 m.other, .string ⟨m.fx.toArray⟩, .string ⟨m.fy.toArray⟩, .string ⟨m.fz.toArray⟩, .string ⟨m.tx.toArray⟩, .string ⟨m.ty.toArray⟩, .string ⟨m.tz.toArray⟩, .int .i64 m.wid, .int .i64 m.dep]
structure Mb.short (m : Mb) : Prop where
  fx : m.fx.length ≤ 30
  fy : m.fy.length ≤ 30
  fz : m.fz.length ≤ 30
  tx : m.tx.length ≤ 30
  ty : m.ty.length ≤ 30
  tz : m.tz.length ≤ 30
def chk3 (x y z : Str) : Int := if rchk x ≠ 0 then rchk x else if rchk y ≠ 0 then rchk y else rchk z
theorem chk3_zero {x y z : Str} (h : chk3 x y z = 0) : rchk x = 0 ∧ rchk y = 0 ∧ rchk z = 0 := by
  unfold chk3 at h
  by_cases hx : rchk x = 0
  · rw [if_neg (by simpa using hx)] at h
    by_cases hy : rchk y = 0
    · rw [if_neg (by simpa using hy)] at h
      exact ⟨hx, hy, h⟩
    · rw [if_pos hy] at h; exact absurd h hy
  · rw [if_pos hx] at h; exact absurd h hx
def outF (n a b : Int) : Bool := decide (n < a) || decide (b < n)
def hipE (m : Mb) : Int :=
  if outF m.kind 1 12 = true then 8
  else if m.face < 0 ∨ m.other < -1 then 19
  else if outF m.wid 1 1000 = true ∨ outF m.dep 1 1000 = true then 2
  else if chk3 m.fx m.fy m.fz ≠ 0 then chk3 m.fx m.fy m.fz
  else if chk3 m.tx m.ty m.tz ≠ 0 then chk3 m.tx m.ty m.tz
  else if m.fx = m.tx ∧ m.fy = m.ty ∧ m.fz = m.tz then 12
  else 0
structure MbOk (m : Mb) : Prop where
  k1 : 1 ≤ m.kind
  k2 : m.kind ≤ 12
  f0 : 0 ≤ m.face
  o0 : -1 ≤ m.other
  w1 : 1 ≤ m.wid
  w2 : m.wid ≤ 1000
  d1 : 1 ≤ m.dep
  d2 : m.dep ≤ 1000
  cf : rchk m.fx = 0 ∧ rchk m.fy = 0 ∧ rchk m.fz = 0
  ct : rchk m.tx = 0 ∧ rchk m.ty = 0 ∧ rchk m.tz = 0
  ne : ¬ (m.fx = m.tx ∧ m.fy = m.ty ∧ m.fz = m.tz)
theorem outF_false {n a b : Int} (h : ¬ outF n a b = true) : a ≤ n ∧ n ≤ b := by
  unfold outF at h
  simp only [Bool.or_eq_true, decide_eq_true_eq] at h
  omega
theorem hipE_ok {m : Mb} (h : hipE m = 0) : MbOk m := by
  unfold hipE at h
  by_cases h1 : outF m.kind 1 12 = true
  · rw [if_pos h1] at h; omega
  rw [if_neg h1] at h
  by_cases h2 : m.face < 0 ∨ m.other < -1
  · rw [if_pos h2] at h; omega
  rw [if_neg h2] at h
  by_cases h3 : outF m.wid 1 1000 = true ∨ outF m.dep 1 1000 = true
  · rw [if_pos h3] at h; omega
  rw [if_neg h3] at h
  by_cases h4 : chk3 m.fx m.fy m.fz ≠ 0
  · rw [if_pos h4] at h; exact absurd h h4
  rw [if_neg h4] at h
  by_cases h5 : chk3 m.tx m.ty m.tz ≠ 0
  · rw [if_pos h5] at h; exact absurd h h5
  rw [if_neg h5] at h
  by_cases h6 : m.fx = m.tx ∧ m.fy = m.ty ∧ m.fz = m.tz
  · rw [if_pos h6] at h; omega
  have a1 := outF_false h1
  have a2 := outF_false (fun h => h3 (.inl h))
  have a3 := outF_false (fun h => h3 (.inr h))
  exact ⟨a1.1, a1.2, by omega, by omega, a2.1, a2.2, a3.1, a3.2, chk3_zero (by simpa using h4), chk3_zero (by simpa using h5), h6⟩
theorem abs_len (x : Int) : x.natAbs < 10 ^ (Lib.itoa x).length := by
  refine Nat.lt_of_lt_of_le (lt_pow_dec x.natAbs) (Nat.pow_le_pow_right (by decide) ?_)
  by_cases h : x < 0
  · rw [itoa_neg h]; simp
  · rw [itoa_nonneg (by omega), show x.toNat = x.natAbs by omega]; exact Nat.le_refl _
theorem rval_bdn {a : Str} {n : Nat} (h : rchk a = 0) (hl : a.length ≤ n) (hn : 1 ≤ n) : Bd n (rval a) := by
  obtain ⟨h1, h2⟩ := rstr_rval h
  have e1 := numPart_rstr (rval a)
  have e2 := denStr_rstr (rval a)
  rw [h1] at e1 e2
  have l1 := numPart_len a
  have l2 : (denStr a).length ≤ n := by
    unfold denStr; split
    · have := denPart_len a; omega
    · simp; omega
  rw [e1] at l1
  rw [e2] at l2
  have b1 := abs_len (rval a).num
  have b2 := abs_len ((rval a).den : Int)
  rw [Int.natAbs_natCast] at b2
  exact ⟨Nat.lt_of_lt_of_le b1 (Nat.pow_le_pow_right (by decide) (by omega)), Nat.lt_of_lt_of_le b2 (Nat.pow_le_pow_right (by decide) (by omega))⟩
def Mb.pf (m : Mb) : P3 := ⟨rval m.fx, rval m.fy, rval m.fz⟩
def Mb.pt (m : Mb) : P3 := ⟨rval m.tx, rval m.ty, rval m.tz⟩
theorem MbOk.bf {m : Mb} (h : MbOk m) (hs : m.short) : B3 30 m.pf := ⟨rval_bdn h.cf.1 hs.fx (by decide), rval_bdn h.cf.2.1 hs.fy (by decide), rval_bdn h.cf.2.2 hs.fz (by decide)⟩
theorem MbOk.bt {m : Mb} (h : MbOk m) (hs : m.short) : B3 30 m.pt := ⟨rval_bdn h.ct.1 hs.tx (by decide), rval_bdn h.ct.2.1 hs.ty (by decide), rval_bdn h.ct.2.2 hs.tz (by decide)⟩
theorem MbOk.strf {m : Mb} (h : MbOk m) : rstr m.pf.x = m.fx ∧ rstr m.pf.y = m.fy ∧ rstr m.pf.z = m.fz := ⟨(rstr_rval h.cf.1).1, (rstr_rval h.cf.2.1).1, (rstr_rval h.cf.2.2).1⟩
theorem MbOk.strt {m : Mb} (h : MbOk m) : rstr m.pt.x = m.tx ∧ rstr m.pt.y = m.ty ∧ rstr m.pt.z = m.tz := ⟨(rstr_rval h.ct.1).1, (rstr_rval h.ct.2.1).1, (rstr_rval h.ct.2.2).1⟩
set_option maxHeartbeats 400000 in
theorem hip_out (n a b : Int) (w : World) :
    Calls Tryz.prog 13 #[.int .i64 n, .int .i64 a, .int .i64 b] w fun e w' => e = .returned (.bool (outF n a b)) ∧ w = w' := by
  unfold outF
  go_enter Tryz.func13, Tryz.ntmps13
  by_cases h1 : n < a
  · rw [decide_eq_true h1, Bool.true_or]
    go_wp2
    go_ret
    exact ⟨rfl, rfl⟩
  · rw [decide_eq_false h1, Bool.false_or]
    go_wp2
    go_ret
    exact ⟨rfl, rfl⟩
set_option maxRecDepth 100000 in
set_option maxHeartbeats 1000000 in
theorem vector_Check_any (X Y Z : Str) (lX : X.length ≤ 30) (lY : Y.length ≤ 30) (lZ : Z.length ≤ 30) (w : World) (hE : Env w) :
    Calls Tryz.prog 14 #[.agg #[.string ⟨X.toArray⟩, .string ⟨Y.toArray⟩, .string ⟨Z.toArray⟩]] w fun e w' => e = .returned (.int .i64 (chk3 X Y Z)) ∧ Q w w' := by
  have HX := Lib.hid (fun w hw => rational_Check X (by omega) w hw)
  have HY := Lib.hid (fun w hw => rational_Check Y (by omega) w hw)
  have HZ := Lib.hid (fun w hw => rational_Check Z (by omega) w hw)
  obtain ⟨c, hc⟩ : ∃ c, chk3 X Y Z = c := ⟨_, rfl⟩
  rw [hc]
  unfold chk3 at hc
  generalize rchk X = cX at *
  generalize rchk Y = cY at *
  generalize rchk Z = cZ at *
  have HC := Lib.hid hc
  clear hc lX lY lZ
  have HL := Lib.hid (fun w => vector_list X Y Z w)
  go_enter Tryz.func14, Tryz.ntmps14
  have hQ0 := Q.refl w
  go_wp2_with fail
  refine (HL.out _).mono ?_
  rintro e w1 ⟨rfl, hq1⟩
  have hs1 : Q w w1 := Q.trans bt hq1
  have hQ1 : Q w w1 := Q.trans hQ0 hs1
  go_wp2
  go_loopw [8] (fun i wr => (i = .int .i64 0 ∨ (i = .int .i64 1 ∧ cX = 0) ∨ (i = .int .i64 2 ∧ cX = 0 ∧ cY = 0) ∨ (i = .int .i64 3 ∧ cX = 0 ∧ cY = 0 ∧ cZ = 0)) ∧ Q w wr) (fun i _ => 3 - (intOf i).toNat)
  case atStart => exact ⟨.inl rfl, hQ1⟩
  case round =>
    obtain ⟨hi, hQ⟩ := hrel
    clear hQ0 hs1 hq1 hQ1
    rcases hi with rfl | ⟨rfl, z0⟩ | ⟨rfl, z0, z1⟩ | ⟨rfl, z0, z1, z2⟩
    · have hi := idx3_0 (.string ⟨X.toArray⟩) (.string ⟨Y.toArray⟩) (.string ⟨Z.toArray⟩)
      go_wp2_with fail
      refine (HX.out _ (hE.ofQ bt)).mono ?_
      rintro e w2 ⟨rfl, hq2⟩
      have hQ2 : Q w w2 := Q.trans bt hq2
      by_cases h0 : cX = 0
      · have hb : (cX == 0) = true := by rw [h0]; rfl
        go_wp2
        go_roundw
        case rel => exact ⟨.inr (.inl ⟨rfl, h0⟩), hQ2⟩
        case measure => simp [intOf]
      · have hb : (cX == 0) = false := by simpa using h0
        have hc : c = cX := by rw [← HC.out]; rw [if_pos h0]
        go_wp2
        go_ret
        exact ⟨by rw [hc]; rfl, hQ2⟩
    · have hi := idx3_1 (.string ⟨X.toArray⟩) (.string ⟨Y.toArray⟩) (.string ⟨Z.toArray⟩)
      go_wp2_with fail
      refine (HY.out _ (hE.ofQ bt)).mono ?_
      rintro e w2 ⟨rfl, hq2⟩
      have hQ2 : Q w w2 := Q.trans bt hq2
      by_cases h0 : cY = 0
      · have hb : (cY == 0) = true := by rw [h0]; rfl
        go_wp2
        go_roundw
        case rel => exact ⟨.inr (.inr (.inl ⟨rfl, z0, h0⟩)), hQ2⟩
        case measure => simp [intOf]
      · have hb : (cY == 0) = false := by simpa using h0
        have hc : c = cY := by rw [← HC.out]; rw [if_neg (by simpa using z0), if_pos h0]
        go_wp2
        go_ret
        exact ⟨by rw [hc]; rfl, hQ2⟩
    · have hi := idx3_2 (.string ⟨X.toArray⟩) (.string ⟨Y.toArray⟩) (.string ⟨Z.toArray⟩)
      go_wp2_with fail
      refine (HZ.out _ (hE.ofQ bt)).mono ?_
      rintro e w2 ⟨rfl, hq2⟩
      have hQ2 : Q w w2 := Q.trans bt hq2
      by_cases h0 : cZ = 0
      · have hb : (cZ == 0) = true := by rw [h0]; rfl
        go_wp2
        go_roundw
        case rel => exact ⟨.inr (.inr (.inr ⟨rfl, z0, z1, h0⟩)), hQ2⟩
        case measure => simp [intOf]
      · have hb : (cZ == 0) = false := by simpa using h0
        have hc : c = cZ := by rw [← HC.out]; rw [if_neg (by simpa using z0), if_neg (by simpa using z1)]
        go_wp2
        go_ret
        exact ⟨by rw [hc]; rfl, hQ2⟩
    · have hc : c = 0 := by rw [← HC.out, if_neg (by simpa using z0), if_neg (by simpa using z1), z2]
      go_wp2
      go_ret
      exact ⟨by rw [hc]; rfl, bt⟩
set_option maxRecDepth 100000 in
set_option maxHeartbeats 4000000 in
theorem hip_Check_any (m : Mb) (hs : m.short) (w : World) (hE : Env w) :
    Calls Tryz.prog 5 #[.agg (mbC m).toArray] w fun e w' => e = .returned (.int .i64 (hipE m)) ∧ Q w w' := by
  have HF := Lib.hid (fun w hw => vector_Check_any m.fx m.fy m.fz hs.fx hs.fy hs.fz w hw)
  have HT := Lib.hid (fun w hw => vector_Check_any m.tx m.ty m.tz hs.tx hs.ty hs.tz w hw)
  have HLF : Hid (chk3 m.fx m.fy m.fz = 0 → ∀ w, Env w → Calls Tryz.prog 15 #[.agg #[.string ⟨m.fx.toArray⟩, .string ⟨m.fy.toArray⟩, .string ⟨m.fz.toArray⟩]] w fun e w' => e = .returned (.bool false) ∧ Q w w') := Lib.hid (fun h w hw => by
    have hc := chk3_zero h
    have h1 := hip_long (n := 30) m.pf ⟨rval_bdn hc.1 hs.fx (by decide), rval_bdn hc.2.1 hs.fy (by decide), rval_bdn hc.2.2 hs.fz (by decide)⟩ (by decide) w hw
    unfold V3 Mb.pf at h1
    simp only [(rstr_rval hc.1).1, (rstr_rval hc.2.1).1, (rstr_rval hc.2.2).1] at h1
    exact h1)
  have HLT : Hid (chk3 m.tx m.ty m.tz = 0 → ∀ w, Env w → Calls Tryz.prog 15 #[.agg #[.string ⟨m.tx.toArray⟩, .string ⟨m.ty.toArray⟩, .string ⟨m.tz.toArray⟩]] w fun e w' => e = .returned (.bool false) ∧ Q w w') := Lib.hid (fun h w hw => by
    have hc := chk3_zero h
    have h1 := hip_long (n := 30) m.pt ⟨rval_bdn hc.1 hs.tx (by decide), rval_bdn hc.2.1 hs.ty (by decide), rval_bdn hc.2.2 hs.tz (by decide)⟩ (by decide) w hw
    unfold V3 Mb.pt at h1
    simp only [(rstr_rval hc.1).1, (rstr_rval hc.2.1).1, (rstr_rval hc.2.2).1] at h1
    exact h1)
  obtain ⟨c, hc⟩ : ∃ c, hipE m = c := ⟨_, rfl⟩
  rw [hc]
  unfold hipE at hc
  obtain ⟨k, fc, ot, X, Y, Z, X', Y', Z', W, D⟩ := m
  unfold mbC
  simp only at *
  clear hs
  generalize chk3 X Y Z = c1 at *
  generalize chk3 X' Y' Z' = c2 at *
  have HO1 := Lib.hid (fun w => hip_out k 1 12 w)
  have HO2 := Lib.hid (fun w => hip_out W 1 1000 w)
  have HO3 := Lib.hid (fun w => hip_out D 1 1000 w)
  generalize outF k 1 12 = b1 at *
  generalize outF W 1 1000 = b2 at *
  generalize outF D 1 1000 = b3 at *
  go_enter Tryz.func5, Tryz.ntmps5
  go_wp2_with fail
  have A := Blk.new w [.int .i64 k, .int .i64 fc, .int .i64 ot, .string ⟨X.toArray⟩, .string ⟨Y.toArray⟩, .string ⟨Z.toArray⟩, .string ⟨X'.toArray⟩, .string ⟨Y'.toArray⟩, .string ⟨Z'.toArray⟩, .int .i64 W, .int .i64 D] 26
  refine (HO1.out _).mono ?_
  rintro e w1 ⟨rfl, rfl⟩
  cases b1 with
  | true =>
    rw [if_pos rfl] at hc
    subst hc
    go_wp2
    go_ret
    exact ⟨rfl, bt⟩
  | false =>
    rw [if_neg (by simp)] at hc
    by_cases hf : fc < 0 ∨ ot < -1
    · rw [if_pos hf] at hc
      subst hc
      go_wp2
      all_goals (go_ret; exact ⟨rfl, bt⟩)
    · rw [if_neg hf] at hc
      have hf1 : ¬ fc < 0 := fun h => hf (.inl h)
      have hf2 : ¬ ot < -1 := fun h => hf (.inr h)
      go_wp2_with fail
      refine (HO2.out _).mono ?_
      rintro e w1 ⟨rfl, rfl⟩
      cases b2 with
      | true =>
        rw [if_pos (.inl rfl)] at hc
        subst hc
        go_wp2
        go_ret
        exact ⟨rfl, bt⟩
      | false =>
        go_wp2_with fail
        refine (HO3.out _).mono ?_
        rintro e w1 ⟨rfl, rfl⟩
        cases b3 with
        | true =>
          rw [if_pos (.inr rfl)] at hc
          subst hc
          go_wp2
          go_ret
          exact ⟨rfl, bt⟩
        | false =>
          rw [if_neg (by simp)] at hc
          have HCC := Lib.hid hc
          clear HO1 HO2 HO3 hc hf hf1 hf2
          go_wp2
          have S := Blk.new1 w (.cells #[.int .i64 k, .int .i64 fc, .int .i64 ot, .string ⟨X.toArray⟩, .string ⟨Y.toArray⟩, .string ⟨Z.toArray⟩, .string ⟨X'.toArray⟩, .string ⟨Y'.toArray⟩, .string ⟨Z'.toArray⟩, .int .i64 W, .int .i64 D] 26) [.string ⟨X.toArray⟩, .string ⟨Y.toArray⟩, .string ⟨Z.toArray⟩, .string ⟨X'.toArray⟩, .string ⟨Y'.toArray⟩, .string ⟨Z'.toArray⟩] 24
          replace A := A.alloc (.cells #[.string ⟨X.toArray⟩, .string ⟨Y.toArray⟩, .string ⟨Z.toArray⟩, .string ⟨X'.toArray⟩, .string ⟨Y'.toArray⟩, .string ⟨Z'.toArray⟩] 24)
          go_loopw [34] (fun i wr => (i = .int .i64 0 ∨ (i = .int .i64 1 ∧ c1 = 0) ∨ (i = .int .i64 2 ∧ c1 = 0 ∧ c2 = 0)) ∧ Q w wr ∧ Blk wr w.heap.size [.int .i64 k, .int .i64 fc, .int .i64 ot, .string ⟨X.toArray⟩, .string ⟨Y.toArray⟩, .string ⟨Z.toArray⟩, .string ⟨X'.toArray⟩, .string ⟨Y'.toArray⟩, .string ⟨Z'.toArray⟩, .int .i64 W, .int .i64 D] 26 ∧ Blk wr (w.heap.size + 1) [.string ⟨X.toArray⟩, .string ⟨Y.toArray⟩, .string ⟨Z.toArray⟩, .string ⟨X'.toArray⟩, .string ⟨Y'.toArray⟩, .string ⟨Z'.toArray⟩] 24) (fun i _ => 2 - (intOf i).toNat)
          case atStart => exact ⟨.inl rfl, bt, A, S⟩
          case round =>
            clear A S
            obtain ⟨hi, hQ, A, S⟩ := hrel
            rcases hi with rfl | ⟨rfl, z1⟩ | ⟨rfl, z1, z2⟩
            · have s0 := S.cell 0
              have s1 := S.cell 1
              have s2 := S.cell 2
              simp only [List.getElem?_cons_zero, List.getElem?_cons_succ] at s0 s1 s2
              go_wp2_with fail
              refine (HF.out _ (hE.ofQ bt)).mono ?_
              rintro e w2 ⟨rfl, hq2⟩
              have hs2 : Q wr w2 := Q.trans bt hq2
              have hQ2 : Q w w2 := Q.trans hQ hs2
              clear s0 s1 s2
              by_cases h0 : c1 = 0
              · have hb : (c1 == 0) = true := by rw [h0]; rfl
                go_wp2
                go_roundw
                case rel => exact ⟨.inr (.inl ⟨rfl, h0⟩), hQ2, A.keep hs2 A.lt, S.keep hs2 S.lt⟩
                case measure => simp [intOf]
              · have hb : (c1 == 0) = false := by simpa using h0
                have hc : c = c1 := by rw [← HCC.out, if_pos h0]
                go_wp2
                go_ret
                exact ⟨by rw [hc]; rfl, hQ2⟩
            · have s0 := S.cell 3
              have s1 := S.cell 4
              have s2 := S.cell 5
              simp only [List.getElem?_cons_zero, List.getElem?_cons_succ] at s0 s1 s2
              go_wp2_with fail
              refine (HT.out _ (hE.ofQ bt)).mono ?_
              rintro e w2 ⟨rfl, hq2⟩
              have hs2 : Q wr w2 := Q.trans bt hq2
              have hQ2 : Q w w2 := Q.trans hQ hs2
              clear s0 s1 s2
              by_cases h0 : c2 = 0
              · have hb : (c2 == 0) = true := by rw [h0]; rfl
                go_wp2
                go_roundw
                case rel => exact ⟨.inr (.inr ⟨rfl, z1, h0⟩), hQ2, A.keep hs2 A.lt, S.keep hs2 S.lt⟩
                case measure => simp [intOf]
              · have hb : (c2 == 0) = false := by simpa using h0
                have hc : c = c2 := by rw [← HCC.out, if_neg (by simpa using z1), if_pos h0]
                go_wp2
                go_ret
                exact ⟨by rw [hc]; rfl, hQ2⟩
            · clear S
              have HLF' := Lib.hid (HLF.out z1)
              have HLT' := Lib.hid (HLT.out z2)
              have hcc : (if X = X' ∧ Y = Y' ∧ Z = Z' then (12 : Int) else 0) = c := by
                have h := HCC.out
                rw [if_neg (by simpa using z1), if_neg (by simpa using z2)] at h
                exact h
              clear HCC HLF HLT HF HT
              have a3 := A.cell 3
              have a4 := A.cell 4
              have a5 := A.cell 5
              have a6 := A.cell 6
              have a7 := A.cell 7
              have a8 := A.cell 8
              simp only [List.getElem?_cons_zero, List.getElem?_cons_succ] at a3 a4 a5 a6 a7 a8
              go_wp2_with fail
              refine (HLF'.out _ (hE.ofQ bt)).mono ?_
              rintro e w2 ⟨rfl, hq2⟩
              have hs2 : Q wr w2 := Q.trans bt hq2
              have hQ2 : Q w w2 := Q.trans hQ hs2
              replace A := A.keep hs2 A.lt
              replace a3 := A.cell 3
              replace a4 := A.cell 4
              replace a5 := A.cell 5
              replace a6 := A.cell 6
              replace a7 := A.cell 7
              replace a8 := A.cell 8
              simp only [List.getElem?_cons_zero, List.getElem?_cons_succ] at a3 a4 a5 a6 a7 a8
              go_wp2_with fail
              refine (HLT'.out _ (hE.ofQ bt)).mono ?_
              rintro e w3 ⟨rfl, hq3⟩
              have hs3 : Q w2 w3 := Q.trans bt hq3
              have hQ3 : Q w w3 := Q.trans hQ2 hs3
              replace A := A.keep hs3 A.lt
              replace a3 := A.cell 3
              replace a4 := A.cell 4
              replace a5 := A.cell 5
              replace a6 := A.cell 6
              replace a7 := A.cell 7
              replace a8 := A.cell 8
              simp only [List.getElem?_cons_zero, List.getElem?_cons_succ] at a3 a4 a5 a6 a7 a8
              by_cases heq : X = X' ∧ Y = Y' ∧ Z = Z'
              · rw [if_pos heq] at hcc
                obtain ⟨rfl, rfl, rfl⟩ := heq
                subst hcc
                go_wp2
                all_goals (go_ret; exact ⟨rfl, hQ3⟩)
              · rw [if_neg heq] at hcc
                subst hcc
                have hne : ((X == X') && ((Y == Y') && (Z == Z'))) = false := by
                  rcases hb : ((X == X') && ((Y == Y') && (Z == Z'))) with _ | _
                  · rfl
                  · simp only [Bool.and_eq_true, beq_iff_eq] at hb
                    exact absurd hb heq
                go_wp2
                all_goals first
                  | (exfalso; subst_vars; simp at hne; done)
                  | (go_ret; exact ⟨rfl, hQ3⟩)
end Go.Proofs.YtohonlboaddppaaGreatDoor
namespace Go.Proofs.YtohonlboaddppaaGreatDoor
open Go.RowKit Kp
structure Fr where
  up : Bool
  coord : Int
  dir : Int
  speed : Rat
  start : Rat
def frC (f : Fr) : List Value := [.bool f.up, .int .i64 f.coord, .int .i64 f.dir, .string ⟨(rstr f.speed).toArray⟩, .string ⟨(rstr f.start).toArray⟩]
def headF (s n : Sd) : Nat := if s.x < n.x then 0 else if s.y < n.y then 1 else if n.x < s.x then 2 else 3
def upF : Nat → Bool
  | 0 => false
  | 1 => true
  | 2 => false
  | _ => true
def dirF : Nat → Int
  | 0 => 1
  | 1 => -1
  | 2 => -1
  | _ => 1
def frontF (s n : Sd) : Fr := ⟨upF (headF s n), if upF (headF s n) then s.x else s.y, dirF (headF s n), if s.gable then 0 else Rat.divInt s.run s.rise, (s.plate : Rat)⟩
def ringFr (r : List Sd) : List Fr := (List.range r.length).map fun i => frontF (sdAt r i) (sdAt r ((i + 1) % r.length))
def frontsF (R : List (List Sd)) : List Fr := R.flatMap ringFr
theorem ringFr_len (r : List Sd) : (ringFr r).length = r.length := by unfold ringFr; rw [List.length_map, List.length_range]
theorem frontsF_len : ∀ R : List (List Sd), (frontsF R).length = R.flatten.length
  | [] => rfl
  | r :: R => by
    have ih := frontsF_len R
    unfold frontsF at *
    rw [List.flatMap_cons, List.length_append, ringFr_len, ih, List.flatten_cons, List.length_append]
structure FrOk (f : Fr) : Prop where
  c0 : 0 ≤ f.coord
  c1 : f.coord ≤ 65536
  d : f.dir = 1 ∨ f.dir = -1
  s : Bd 5 f.speed
  s0 : 0 ≤ f.speed.num
  p : Bd 5 f.start
theorem dirF_one (n : Nat) : dirF n = 1 ∨ dirF n = -1 := by
  unfold dirF
  split
  · exact .inl rfl
  · exact .inr rfl
  · exact .inr rfl
  · exact .inl rfl
theorem frontF_ok {s n : Sd} (h : Rgd s) : FrOk (frontF s n) := by
  have hx := h.x0; have hx1 := h.x1; have hy := h.y0; have hy1 := h.y1; have hp := h.p0; have hp1 := h.p1
  refine ⟨?_, ?_, dirF_one _, ?_, ?_, ?_⟩
  · show 0 ≤ (if upF (headF s n) then s.x else s.y)
    split <;> omega
  · show (if upF (headF s n) then s.x else s.y) ≤ 65536
    split <;> omega
  · show Bd 5 (if s.gable then 0 else Rat.divInt s.run s.rise)
    split
    · exact ⟨Nat.pow_pos (by decide), Nat.one_lt_pow (by omega) (by decide)⟩
    · next hg =>
      have h1 := h.n (by simpa using hg)
      obtain ⟨k, hk⟩ := Int.eq_ofNat_of_zero_le (show 0 ≤ s.rise by omega)
      rw [hk]
      exact bd_divInt (by omega) (by omega) (by omega)
  · show 0 ≤ (if s.gable then (0 : Rat) else Rat.divInt s.run s.rise).num
    split
    · decide
    · next hg =>
      have h1 := h.n (by simpa using hg)
      obtain ⟨k, hk⟩ := Int.eq_ofNat_of_zero_le (show 0 ≤ s.rise by omega)
      rw [hk]
      exact Int.le_of_lt (divInt_num_pos (by omega) (by omega))
  · show Bd 5 (s.plate : Rat)
    exact bd_int (by omega) (by decide)
theorem sdAt_mem {r : List Sd} {i : Nat} (h : i < r.length) : sdAt r i ∈ r := by
  unfold sdAt
  rw [List.getD_eq_getElem?_getD, List.getElem?_eq_getElem h]
  exact List.getElem_mem h
theorem frontsF_ok {R : List (List Sd)} (h : ∀ s ∈ R.flatten, Rgd s) : ∀ f ∈ frontsF R, FrOk f := by
  intro f hf
  unfold frontsF at hf
  obtain ⟨r, hr, hf⟩ := List.mem_flatMap.1 hf
  unfold ringFr at hf
  obtain ⟨i, hi, rfl⟩ := List.mem_map.1 hf
  exact frontF_ok (h _ (List.mem_flatten.2 ⟨r, hr, sdAt_mem (List.mem_range.1 hi)⟩))
def distF (f : Fr) (x y : Rat) : Rat := (f.dir : Rat) * ((if f.up then x else y) - (f.coord : Rat))
structure Raf where
  dep : Int
  pitch : Rat
  run : Rat
  over : Int
def fr0 : Fr := ⟨false, 0, 0, 0, 0⟩
def faceS (R : List (List Sd)) (m : Mb) : Sd := R.flatten.getD m.face.toNat sd0
def faceF (R : List (List Sd)) (m : Mb) : Fr := (frontsF R).getD m.face.toNat fr0
def lowF (R : List (List Sd)) (m : Mb) : Rat := distF (faceF R m) m.pf.x m.pf.y
def highF (R : List (List Sd)) (m : Mb) : Rat := distF (faceF R m) m.pt.x m.pt.y
def rafOf (R : List (List Sd)) (m : Mb) : Raf := ⟨m.dep, Rat.divInt (faceS R m).rise (faceS R m).run, highF R m, (faceS R m).over⟩
end Go.Proofs.YtohonlboaddppaaGreatDoor
