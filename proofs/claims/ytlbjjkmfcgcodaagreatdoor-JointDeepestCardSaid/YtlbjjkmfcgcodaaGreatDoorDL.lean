/-
  Walks of package joint: notched and Check at any notch of a birdsmouth's heel.
-/
import Derived.Test.YtlbjjkmfcgcodaaGreatDoorDK
import Derived.Laws.CopyRow
import Derived.Laws.CopyOwn
namespace Go.Proofs.YtlbjjkmfcgcodaaGreatDoor
open Go.RowKit Go.Shelf Kp

attribute [local go_sem] Oper.semAt_some

/-- Why a notch is none of a rafter. -/
def ntE (c b : Bool) : Int := if c then 1 else if b then 0 else 9
def inB (x : Raf) (q : Rat) : Bool := decide (ordF q (x.run - x.over) ≤ 0)
/-- What stands in a block is stored over it, in a round: nothing changes. -/
theorem wpListIn_store_same {l m : Nat} {P : Program} {ops : Array Oper} {rest : List Oper} {op : Oper} {a : Act} {w : World} {R : Exit → Act → World → Prop} (hgd : op.guard = none) (ty : TypeId) (x y : Operand) (ho : op.op = .store ty x y) (b : Nat) {t : TypeId} {cs : List Value} (hb : Blk w b cs t)
    (hx : a.eval x = .pointer (some ⟨b, 0, none⟩)) (hy : a.eval y = .agg cs.toArray) (hi : (P.info? ty).map (·.size) = some cs.length) (h1 : ∀ v ∈ cs, v.oneCell' = true)
    (h : wpListIn (Fence.wide.inRound l) m P ops R rest (a.put op.dst undef) w) : wpListIn (Fence.wide.inRound l) m P ops R (op :: rest) a w := by
  have hs : (storeVar ty ⟨b, 0, none⟩ (.agg cs.toArray)).run P w = .ok () w := by
    have h2 := run_storeCells_at (P := P) b 0 t cs 0 cs.toArray w hb (by simp) h1
    rw [show (cs.toArray.toList.take (0 + 0) ++ cs ++ cs.toArray.toList.drop (0 + 0 + cs.length)) = cs by simp, setRow_self w b cs.toArray t (0, 0) hb] at h2
    cases hq : P.info? ty with
    | none => simp [hq] at hi
    | some i =>
      have hz : cs.length = i.size := by simp [hq] at hi; omega
      simp [storeVar, sizeOf, typeInfo, hq, Value.cells, hz, h2]
  refine wpListIn_plain hgd fun K hK => ⟨fun _ _ => trivial, ?_⟩
  rw [Oper.semAt_eq _ _ _ (fun c hc => by rw [ho] at hc; cases hc)]
  unfold execOp
  simp only [ho, hx, hy, Instr.storeAt, Instr.sureAddr, Sem.run_bind, Sem.run_pure, Result.andThen_ok, hs]
  exact hK _ _ h

set_option maxRecDepth 100000 in
set_option maxHeartbeats 4000000 in
theorem notched_inG (ro : Ro) (m : Mb) (x : Raf) (hx : RafBd x) (q : Rat) (hq : NotchQ q) (w : World) (hE : Env w) (hof : OfC w ro m x) :
    CallsIn Fence.wide 9 Tryz.prog 48 #[.agg (roC ro).toArray, .agg (mbC m).toArray, .agg #[.string ⟨(rstr (x.over : Rat)).toArray⟩, .string ⟨(rstr q).toArray⟩, .string ⟨(rstr (q * x.pitch)).toArray⟩]] w fun e w' => e = .returned (.tuple #[.agg (if ntE (longG x q) (inB x q) = 0 then rafC x else rafZ).toArray, .int .i64 (ntE (longG x q) (inB x q))]) ∧ Q w w' := by
  refine callsIn_of_wp_marks Tryz.func48 rfl trivial ?_ rfl
  simp only [Tryz.ntmps48, List.size_toArray, List.length_cons, List.length_nil, Nat.reduceAdd, Nat.reduceSub, Array.replicate_succ, Array.replicate_zero, List.push_toArray, List.append_toArray, List.nil_append, List.cons_append]
  refine wpIn_wide.2 ?_
  have HO := Lib.hid hof
  have HN : Hid (∀ Bn Bx W, Blk W Bn [.string ⟨(rstr (x.over : Rat)).toArray⟩, .string ⟨(rstr q).toArray⟩, .string ⟨(rstr (q * x.pitch)).toArray⟩] 41 → Blk W Bx (rafC x) 85 →
      SeqNextS 8 Tryz.prog 140 #[.pointer (some ⟨Bn, 0, none⟩), .pointer (some ⟨Bx, 0, none⟩)] (chkG (longG x q) (inB x q)) [Bn, Bx] (fun _ W => Env W) nxUp (fun ys => UpN 2 ys) (fun pre => ∃ k, k ≤ 2 ∧ UpN k pre) W) := Lib.hid (fun Bn Bx W h1 h2 => checks_nextG x hx q hq Bn Bx W 8 (by omega) h1 h2)
  unfold OfC at HO
  generalize longG x q = c at *
  generalize inB x q = b at *
  unfold rafC at HN HO
  unfold rafC rafZ
  unfold roC Sl3.v mbC at HO
  unfold roC Sl3.v mbC
  clear hx hq hof
  obtain ⟨⟨a0, n0, c0⟩, ⟨a1, n1, c1⟩, ⟨a2, n2, c2⟩, ⟨a3, n3, c3⟩⟩ := ro
  obtain ⟨ki, fa, ot, fx, fy, fz, tx, ty, tz, wi, de⟩ := m
  obtain ⟨dp, pitch, run, over⟩ := x
  simp only at HO HN ⊢
  generalize rstr (q * pitch) = HE at *
  generalize rstr q = SS at *
  generalize rstr (over : Rat) = OV at *
  generalize rstr pitch = PI at *
  generalize rstr run = HI at *
  obtain ⟨E, hEn⟩ : ∃ E, ntE c b = E := ⟨_, rfl⟩
  rw [hEn]
  obtain ⟨AV, hAV⟩ : ∃ AV, (if E = 0 then ([.int .i64 dp, .string ⟨PI.toArray⟩, .string ⟨HI.toArray⟩, .string ⟨OV.toArray⟩] : List Value) else [.int .i64 0, .string ⟨#[]⟩, .string ⟨#[]⟩, .string ⟨#[]⟩]) = AV := ⟨_, rfl⟩
  rw [hAV]
  have HEN := Lib.hid hEn
  have HAV := Lib.hid hAV
  clear hEn hAV
  obtain ⟨W0, hW0⟩ : ∃ W0, ((((w.alloc (.cells #[.slice a0 n0 c0, .slice a1 n1 c1, .slice a2 n2 c2, .slice a3 n3 c3] 29)).alloc (.cells #[.int .i64 ki, .int .i64 fa, .int .i64 ot, .string ⟨fx.toArray⟩, .string ⟨fy.toArray⟩, .string ⟨fz.toArray⟩, .string ⟨tx.toArray⟩, .string ⟨ty.toArray⟩, .string ⟨tz.toArray⟩, .int .i64 wi, .int .i64 de] 34)).alloc (.cells #[.string ⟨OV.toArray⟩, .string ⟨SS.toArray⟩, .string ⟨HE.toArray⟩] 41)).alloc (.cells #[.int .i64 0, .string ⟨#[]⟩, .string ⟨#[]⟩, .string ⟨#[]⟩] 85)).alloc (.cells #[.int .i64 0] 42) = W0 := ⟨_, rfl⟩
  have hq0 : Q w W0 := by rw [← hW0]; exact bt
  have hs0 : W0.heap.size = w.heap.size + 5 := by rw [← hW0]; simp
  have BR : Blk W0 w.heap.size [.slice a0 n0 c0, .slice a1 n1 c1, .slice a2 n2 c2, .slice a3 n3 c3] 29 := by
    rw [← hW0]
    exact ((((Blk.new w _ _).alloc _).alloc _).alloc _).alloc _
  have BM : Blk W0 (w.heap.size + 1) [.int .i64 ki, .int .i64 fa, .int .i64 ot, .string ⟨fx.toArray⟩, .string ⟨fy.toArray⟩, .string ⟨fz.toArray⟩, .string ⟨tx.toArray⟩, .string ⟨ty.toArray⟩, .string ⟨tz.toArray⟩, .int .i64 wi, .int .i64 de] 34 := by
    rw [← hW0]
    have := (((Blk.new (w.alloc (.cells #[.slice a0 n0 c0, .slice a1 n1 c1, .slice a2 n2 c2, .slice a3 n3 c3] 29)) [.int .i64 ki, .int .i64 fa, .int .i64 ot, .string ⟨fx.toArray⟩, .string ⟨fy.toArray⟩, .string ⟨fz.toArray⟩, .string ⟨tx.toArray⟩, .string ⟨ty.toArray⟩, .string ⟨tz.toArray⟩, .int .i64 wi, .int .i64 de] 34).alloc (.cells #[.string ⟨OV.toArray⟩, .string ⟨SS.toArray⟩, .string ⟨HE.toArray⟩] 41)).alloc (.cells #[.int .i64 0, .string ⟨#[]⟩, .string ⟨#[]⟩, .string ⟨#[]⟩] 85)).alloc (.cells #[.int .i64 0] 42)
    rw [World.size_alloc] at this; exact this
  have BN : Blk W0 (w.heap.size + 2) [.string ⟨OV.toArray⟩, .string ⟨SS.toArray⟩, .string ⟨HE.toArray⟩] 41 := by
    rw [← hW0]
    have := ((Blk.new ((w.alloc (.cells #[.slice a0 n0 c0, .slice a1 n1 c1, .slice a2 n2 c2, .slice a3 n3 c3] 29)).alloc (.cells #[.int .i64 ki, .int .i64 fa, .int .i64 ot, .string ⟨fx.toArray⟩, .string ⟨fy.toArray⟩, .string ⟨fz.toArray⟩, .string ⟨tx.toArray⟩, .string ⟨ty.toArray⟩, .string ⟨tz.toArray⟩, .int .i64 wi, .int .i64 de] 34)) [.string ⟨OV.toArray⟩, .string ⟨SS.toArray⟩, .string ⟨HE.toArray⟩] 41).alloc (.cells #[.int .i64 0, .string ⟨#[]⟩, .string ⟨#[]⟩, .string ⟨#[]⟩] 85)).alloc (.cells #[.int .i64 0] 42)
    rw [World.size_alloc, World.size_alloc] at this; exact this
  have BZ : Blk W0 (w.heap.size + 3) [.int .i64 0, .string ⟨#[]⟩, .string ⟨#[]⟩, .string ⟨#[]⟩] 85 := by
    rw [← hW0]
    have := (Blk.new (((w.alloc (.cells #[.slice a0 n0 c0, .slice a1 n1 c1, .slice a2 n2 c2, .slice a3 n3 c3] 29)).alloc (.cells #[.int .i64 ki, .int .i64 fa, .int .i64 ot, .string ⟨fx.toArray⟩, .string ⟨fy.toArray⟩, .string ⟨fz.toArray⟩, .string ⟨tx.toArray⟩, .string ⟨ty.toArray⟩, .string ⟨tz.toArray⟩, .int .i64 wi, .int .i64 de] 34)).alloc (.cells #[.string ⟨OV.toArray⟩, .string ⟨SS.toArray⟩, .string ⟨HE.toArray⟩] 41)) [.int .i64 0, .string ⟨#[]⟩, .string ⟨#[]⟩, .string ⟨#[]⟩] 85).alloc (.cells #[.int .i64 0] 42)
    rw [World.size_alloc, World.size_alloc, World.size_alloc] at this; exact this
  have BE : Blk W0 (w.heap.size + 4) [.int .i64 0] 42 := by
    rw [← hW0]
    have := Blk.new ((((w.alloc (.cells #[.slice a0 n0 c0, .slice a1 n1 c1, .slice a2 n2 c2, .slice a3 n3 c3] 29)).alloc (.cells #[.int .i64 ki, .int .i64 fa, .int .i64 ot, .string ⟨fx.toArray⟩, .string ⟨fy.toArray⟩, .string ⟨fz.toArray⟩, .string ⟨tx.toArray⟩, .string ⟨ty.toArray⟩, .string ⟨tz.toArray⟩, .int .i64 wi, .int .i64 de] 34)).alloc (.cells #[.string ⟨OV.toArray⟩, .string ⟨SS.toArray⟩, .string ⟨HE.toArray⟩] 41)).alloc (.cells #[.int .i64 0, .string ⟨#[]⟩, .string ⟨#[]⟩, .string ⟨#[]⟩] 85)) [.int .i64 0] 42
    rw [World.size_alloc, World.size_alloc, World.size_alloc, World.size_alloc] at this; exact this
  have hEw := hE.ofQ hq0
  have hQ0 := Q.refl W0
  replace r0 := BR.cell 0
  replace r1 := BR.cell 1
  replace r2 := BR.cell 2
  replace r3 := BR.cell 3
  simp only [List.getElem?_cons_zero, List.getElem?_cons_succ] at r0 r1 r2 r3
  replace lBR := BR.lt
  replace m0 := BM.cell 0
  replace m1 := BM.cell 1
  replace m2 := BM.cell 2
  replace m3 := BM.cell 3
  replace m4 := BM.cell 4
  replace m5 := BM.cell 5
  replace m6 := BM.cell 6
  replace m7 := BM.cell 7
  replace m8 := BM.cell 8
  replace m9 := BM.cell 9
  replace m10 := BM.cell 10
  simp only [List.getElem?_cons_zero, List.getElem?_cons_succ] at m0 m1 m2 m3 m4 m5 m6 m7 m8 m9 m10
  replace lBM := BM.lt
  go_wp2_with fail
  clear hW0
  refine (HO.out _ hEw hq0).mono ?_
  rintro e Y1 ⟨rfl, hq1⟩
  have hQ1 : Q w Y1 := Q.trans hq0 hq1
  replace BN := BlkK BN hq1
  replace BZ := BlkK BZ hq1
  replace BE := BlkK BE hq1
  have t0 := BN.cell 0
  have t1 := BN.cell 1
  have t2 := BN.cell 2
  simp only [List.getElem?_cons_zero, List.getElem?_cons_succ] at t0 t1 t2
  have hsy := hq1.size
  have lBN := BN.lt
  clear BR BM r0 r1 r2 r3 m0 m1 m2 m3 m4 m5 m6 m7 m8 m9 m10 lBR lBM HO hEw
  go_wp2_with fail
  refine (raf_checks _ _ _ _ _ _ _ _).mono ?_
  rintro e w2 ⟨rfl, rfl⟩
  obtain ⟨W2, hW2⟩ : ∃ W2, ((Y1.alloc (.cells #[.int .i64 dp, .string ⟨PI.toArray⟩, .string ⟨HI.toArray⟩, .string ⟨OV.toArray⟩] 85)).alloc (.cells #[.int .i64 dp, .string ⟨PI.toArray⟩, .string ⟨HI.toArray⟩, .string ⟨OV.toArray⟩] 85)).alloc (.cells #[.string ⟨OV.toArray⟩, .string ⟨SS.toArray⟩, .string ⟨HE.toArray⟩] 41) = W2 := ⟨_, rfl⟩
  have hq2 : Q Y1 W2 := by rw [← hW2]; exact bt
  have hs2 : W2.heap.size = Y1.heap.size + 3 := by rw [← hW2]; simp
  have X1 : Blk W2 Y1.heap.size [.int .i64 dp, .string ⟨PI.toArray⟩, .string ⟨HI.toArray⟩, .string ⟨OV.toArray⟩] 85 := by
    rw [← hW2]
    exact ((Blk.new Y1 _ _).alloc _).alloc _
  have X2 : Blk W2 (Y1.heap.size + 1) [.int .i64 dp, .string ⟨PI.toArray⟩, .string ⟨HI.toArray⟩, .string ⟨OV.toArray⟩] 85 := by
    rw [← hW2]
    have := (Blk.new (Y1.alloc (.cells #[.int .i64 dp, .string ⟨PI.toArray⟩, .string ⟨HI.toArray⟩, .string ⟨OV.toArray⟩] 85)) [.int .i64 dp, .string ⟨PI.toArray⟩, .string ⟨HI.toArray⟩, .string ⟨OV.toArray⟩] 85).alloc (.cells #[.string ⟨OV.toArray⟩, .string ⟨SS.toArray⟩, .string ⟨HE.toArray⟩] 41)
    rw [World.size_alloc] at this; exact this
  have X3 : Blk W2 (Y1.heap.size + 2) [.string ⟨OV.toArray⟩, .string ⟨SS.toArray⟩, .string ⟨HE.toArray⟩] 41 := by
    rw [← hW2]
    have := Blk.new ((Y1.alloc (.cells #[.int .i64 dp, .string ⟨PI.toArray⟩, .string ⟨HI.toArray⟩, .string ⟨OV.toArray⟩] 85)).alloc (.cells #[.int .i64 dp, .string ⟨PI.toArray⟩, .string ⟨HI.toArray⟩, .string ⟨OV.toArray⟩] 85)) [.string ⟨OV.toArray⟩, .string ⟨SS.toArray⟩, .string ⟨HE.toArray⟩] 41
    rw [World.size_alloc, World.size_alloc] at this; exact this
  replace BZ := BlkK BZ hq2
  replace BE := BlkK BE hq2
  rw [World.size_alloc, hW2]
  clear hW2 t0 t1 t2 BN lBN
  have hqW : Q w W2 := Q.trans hQ1 hq2
  go_wp2_with fail
  refine (wpIn_wide (n := 9)).1 ?_
  refine wpIn_rangeFunc_upP (m := 9) Env (gf := 140) (lb := #[.pointer (some ⟨Y1.heap.size + 1 + 1, 0, none⟩), .pointer (some ⟨Y1.heap.size + 1, 0, none⟩)]) (by omega) rfl (enters_of Tryz.func140 (by kernel_rfl) rfl)
    (HN.out _ _ W2 X3 X2) (fun k hk => by
      simp only [List.mem_cons, List.not_mem_nil, or_false] at hk
      rcases hk with rfl | rfl <;> omega) (fun _ => rfl)
    (fun k W => Blk W Y1.heap.size [.int .i64 dp, .string ⟨PI.toArray⟩, .string ⟨HI.toArray⟩, .string ⟨OV.toArray⟩] 85 ∧ Blk W (w.heap.size + 3) [.int .i64 0, .string ⟨#[]⟩, .string ⟨#[]⟩, .string ⟨#[]⟩] 85 ∧ Blk W (w.heap.size + 4) [.int .i64 0] 42 ∧ Q w W ∧ (0 < k → c = false) ∧ (1 < k → b = true))
    (fun cd W => cd = .ret ∧ E ≠ 0 ∧ Blk W (w.heap.size + 3) [.int .i64 0, .string ⟨#[]⟩, .string ⟨#[]⟩, .string ⟨#[]⟩] 85 ∧ Blk W (w.heap.size + 4) [.int .i64 E] 42 ∧ Q w W) (fun k W h => hE.ofQ h.2.2.2.1)
    (fun k W W' h kc hb => ⟨h.1.kc kc, h.2.1.kc kc, h.2.2.1.kc kc, Below.trans h.2.2.2.1 (hb.mono hqW.size), h.2.2.2.2⟩) (fun _ W W' h kc hb => ⟨h.1, h.2.1, h.2.2.1.kc kc, h.2.2.2.1.kc kc, Below.trans h.2.2.2.2 (hb.mono hqW.size)⟩) ⟨X1, BZ, BE, hqW, fun h => absurd h (Nat.lt_irrefl _), fun h => absurd h (by decide)⟩
    (fun x ac W => ac = { tmps := #[.agg #[.slice a0 n0 c0, .slice a1 n1 c1, .slice a2 n2 c2, .slice a3 n3 c3], .agg #[.int .i64 ki, .int .i64 fa, .int .i64 ot, .string ⟨fx.toArray⟩, .string ⟨fy.toArray⟩, .string ⟨fz.toArray⟩, .string ⟨tx.toArray⟩, .string ⟨ty.toArray⟩, .string ⟨tz.toArray⟩, .int .i64 wi, .int .i64 de], .agg #[.string ⟨OV.toArray⟩, .string ⟨SS.toArray⟩, .string ⟨HE.toArray⟩], .pointer (some ⟨w.heap.size, 0, none⟩), .pointer (some ⟨w.heap.size + 1, 0, none⟩), .pointer (some ⟨w.heap.size + 1 + 1, 0, none⟩), .pointer (some ⟨w.heap.size + 1 + 1 + 1, 0, none⟩), .pointer (some ⟨w.heap.size + 1 + 1 + 1 + 1, 0, none⟩), .pointer (some ⟨Y1.heap.size, 0, none⟩), .int .i64 0, .bool (if x.1 = 0 then !c else b), .int .i64 (if x.1 = 0 then 1 else 9), .tuple #[.agg #[.int .i64 dp, .string ⟨PI.toArray⟩, .string ⟨HI.toArray⟩, .string ⟨OV.toArray⟩], .int .i64 0], .agg #[.slice a0 n0 c0, .slice a1 n1 c1, .slice a2 n2 c2, .slice a3 n3 c3], .agg #[.int .i64 ki, .int .i64 fa, .int .i64 ot, .string ⟨fx.toArray⟩, .string ⟨fy.toArray⟩, .string ⟨fz.toArray⟩, .string ⟨tx.toArray⟩, .string ⟨ty.toArray⟩, .string ⟨tz.toArray⟩, .int .i64 wi, .int .i64 de], .tuple #[.agg #[.int .i64 dp, .string ⟨PI.toArray⟩, .string ⟨HI.toArray⟩, .string ⟨OV.toArray⟩], .int .i64 0], .agg #[.int .i64 dp, .string ⟨PI.toArray⟩, .string ⟨HI.toArray⟩, .string ⟨OV.toArray⟩], .int .i64 0, .int .i64 0, .bool false, undef, undef, .agg #[.int .i64 dp, .string ⟨PI.toArray⟩, .string ⟨HI.toArray⟩, .string ⟨OV.toArray⟩], .agg #[.string ⟨OV.toArray⟩, .string ⟨SS.toArray⟩, .string ⟨HE.toArray⟩], .func (.func 140) #[] #[.pointer (some ⟨Y1.heap.size + 1 + 1, 0, none⟩), .pointer (some ⟨Y1.heap.size + 1, 0, none⟩)], .bool (if x.1 = 0 then !c else b), .int .i64 (if x.1 = 0 then 1 else 9), undef, undef, undef, undef, undef], defers := [] })
    (fun x ac W W' h kc => h)
    ?assign ?body ?done ?stop
  case assign =>
    intro l x W K hW hK
    have hk := hK _ W (Q.refl W) rfl
    clear hK
    unfold chkG
    generalize (if x.1 = 0 then (1 : Int) else 9) = ec at *
    generalize (if x.1 = 0 then !c else b) = vc at *
    gi_wp2
    exact hk
  case stop =>
    rintro D cd W hD ⟨rfl, hne, h2, h3, hQk⟩ hK
    have z0 := h2.cell 0
    have z1 := h2.cell 1
    have z2 := h2.cell 2
    have z3 := h2.cell 3
    have e0 := h3.cell 0
    simp only [List.getElem?_cons_zero, List.getElem?_cons_succ] at z0 z1 z2 z3 e0
    have kc := KC.put (.deferred none) hK rfl
    have hDw : w.heap.size ≤ D := by omega
    have hav := HAV.out
    rw [if_neg hne] at hav
    subst hav
    clear HAV
    gi_wp2
    refine ⟨by simp, .inl ⟨_, _, rfl, run_takeDeferred hK, ?_⟩⟩
    exact ⟨_, results_notched (h2.kc kc) ((h3.kc kc).cell 0) _ rfl _ rfl rfl, rfl, Below.trans hQk (below_put hDw hK _)⟩
  case body =>
    rintro l k hk a1 W ⟨h1, h2, h3, hQk, hc0, hb0⟩ rfl
    simp only
    have hcase : ((if k = 0 then !c else b) = true ∧ (0 < k + 1 → c = false) ∧ (1 < k + 1 → b = true)) ∨ ((if k = 0 then !c else b) = false ∧ ntE c b ≠ 0 ∧ (if k = 0 then (1 : Int) else 9) = ntE c b) := by
      clear HEN HAV
      unfold ntE
      have hk2 : k = 0 ∨ k = 1 := by omega
      rcases hk2 with rfl | rfl
      · cases c
        · exact .inl ⟨rfl, fun _ => rfl, fun h => absurd h (by decide)⟩
        · exact .inr ⟨rfl, by simp, rfl⟩
      · have hcf := hc0 (by decide)
        subst hcf
        cases b
        · exact .inr ⟨rfl, by simp, rfl⟩
        · exact .inl ⟨rfl, fun _ => rfl, fun _ => rfl⟩
    generalize (if k = 0 then (1 : Int) else 9) = ec at *
    generalize (if k = 0 then !c else b) = vc at *
    rw [HEN.out] at hcase
    rcases hcase with ⟨rfl, hk1, hk2⟩ | ⟨rfl, hne, hec⟩
    · gi_wp2
      exact ⟨KeepsFrom.refl _ _, KeepB.refl _ _, h1, h2, h3, hQk, hk1, hk2⟩
    · clear hc0 hb0 h1
      replace hec := hec.symm
      subst hec
      have e0 := h3.cell 0
      simp only [List.getElem?_cons_zero] at e0
      have ge := h3.frozen 0
      have Zf := h2.setOther (b' := w.heap.size + 4) (by omega) 0 (.int .i64 E)
      have Ef := h3.set 0 (.int .i64 E)
      simp only [List.set_cons_zero] at Ef
      have hbe : w.heap.size ≤ w.heap.size + 4 := by omega
      have hQe := hQk.setCell (p := ⟨w.heap.size + 4, 0, none⟩) hbe (.int .i64 E)
      have kf := (KeepsOthers.setCell W ⟨w.heap.size + 4, 0, none⟩ (.int .i64 E)).from W2.heap.size
      gi_wp2_with (refine wpListIn_store_same rfl 85 _ _ rfl (w.heap.size + 3) h2 rfl rfl (by kernel_rfl) (by simp [Value.oneCell']) ?_)
      exact ⟨kf, rfl, hne, Zf, Ef, hQe⟩
  case done =>
    rintro D W hD ⟨h1, h2, h3, hQk, hc0, hb0⟩ hK
    have hcf := hc0 (by decide)
    have hbt := hb0 (by decide)
    subst hcf hbt
    clear hc0 hb0
    have hez : E = 0 := HEN.out.symm
    clear HEN
    subst hez
    have hav := HAV.out
    rw [if_pos rfl] at hav
    subst hav
    clear HAV
    have k0 := h1.cell 0
    have k1 := h1.cell 1
    have k2 := h1.cell 2
    have k3 := h1.cell 3
    have z0 := h2.cell 0
    have z1 := h2.cell 1
    have z2 := h2.cell 2
    have z3 := h2.cell 3
    have e0 := h3.cell 0
    simp only [List.getElem?_cons_zero, List.getElem?_cons_succ] at k0 k1 k2 k3 z0 z1 z2 z3 e0
    have g0 := h2.frozen 0
    have g1 := h2.frozen 1
    have g2 := h2.frozen 2
    have g3 := h2.frozen 3
    have ge := h3.frozen 0
    have Zf := ((((h2.set 0 (.int .i64 dp)).set 1 (.string ⟨PI.toArray⟩)).set 2 (.string ⟨HI.toArray⟩)).set 3 (.string ⟨OV.toArray⟩)).setOther (b' := w.heap.size + 4) (by omega) 0 (.int .i64 0)
    simp only [List.set_cons_zero, List.set_cons_succ] at Zf
    have Ef := (((((h3.setOther (b' := w.heap.size + 3) (by omega) 0 (.int .i64 dp)).setOther (b' := w.heap.size + 3) (by omega) 1 (.string ⟨PI.toArray⟩)).setOther (b' := w.heap.size + 3) (by omega) 2 (.string ⟨HI.toArray⟩)).setOther (b' := w.heap.size + 3) (by omega) 3 (.string ⟨OV.toArray⟩)).set 0 (.int .i64 0))
    simp only [List.set_cons_zero] at Ef
    have hbz : w.heap.size ≤ w.heap.size + 3 := by omega
    have hbe : w.heap.size ≤ w.heap.size + 4 := by omega
    have hQe := ((((hQk.setCell (p := ⟨w.heap.size + 3, 0, none⟩) hbz (.int .i64 dp)).setCell (p := ⟨w.heap.size + 3, 1, none⟩) hbz (.string ⟨PI.toArray⟩)).setCell (p := ⟨w.heap.size + 3, 2, none⟩) hbz (.string ⟨HI.toArray⟩)).setCell (p := ⟨w.heap.size + 3, 3, none⟩) hbz (.string ⟨OV.toArray⟩)).setCell (p := ⟨w.heap.size + 4, 0, none⟩) hbe (.int .i64 0)
    have hKo : ∀ (W : World) (a : Addr) (v : Value), W.heap[D]? = some (Obj.deferred (some [])) → (W.setCell a v).heap[D]? = some (Obj.deferred (some [])) := fun W a v h => (KeepsOthers.setCell W a v).same D _ h rfl
    have hK2 := hKo _ ⟨w.heap.size + 4, 0, none⟩ (.int .i64 0) (hKo _ ⟨w.heap.size + 3, 3, none⟩ (.string ⟨OV.toArray⟩) (hKo _ ⟨w.heap.size + 3, 2, none⟩ (.string ⟨HI.toArray⟩) (hKo _ ⟨w.heap.size + 3, 1, none⟩ (.string ⟨PI.toArray⟩) (hKo _ ⟨w.heap.size + 3, 0, none⟩ (.int .i64 dp) hK))))
    have kc := KC.put (.deferred none) hK2 rfl
    have hDw : w.heap.size ≤ D := by omega
    go_wp2
    refine ⟨by simp, .inl ⟨_, _, rfl, run_takeDeferred hK2, ?_⟩⟩
    exact ⟨_, results_notched (Zf.kc kc) ((Ef.kc kc).cell 0) _ rfl _ rfl rfl, rfl, Below.trans hQe (below_put hDw hK2 _)⟩

theorem joint_notchedG (ro : Ro) (m : Mb) (x : Raf) (hx : RafBd x) (q : Rat) (hq : NotchQ q) (w : World) (hE : Env w) (hof : OfC w ro m x) :
    Calls Tryz.prog 48 #[.agg (roC ro).toArray, .agg (mbC m).toArray, .agg #[.string ⟨(rstr (x.over : Rat)).toArray⟩, .string ⟨(rstr q).toArray⟩, .string ⟨(rstr (q * x.pitch)).toArray⟩]] w fun e w' => e = .returned (.tuple #[.agg (if ntE (longG x q) (inB x q) = 0 then rafC x else rafZ).toArray, .int .i64 (ntE (longG x q) (inB x q))]) ∧ Q w w' :=
  callsIn_wide.1 (notched_inG ro m x hx q hq w hE hof)

end Go.Proofs.YtlbjjkmfcgcodaaGreatDoor
