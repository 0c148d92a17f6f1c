/-
  What the proofs of this seat share: the package-level variables that the code reads, the frame of a call, strings as lists of bytes.
-/
import Derived.Test.YtohlpeicpoaanaaGreatDoorProg
import Derived.Test.YtohlpeicpoaanaaGreatDoorMA
import Derived.Test.YtohlpeicpoaanaaGreatDoorCA
import Derived.WalkKit
import Derived.WalkSpells
import Derived.WalkLawsBesides
import Derived.WalkSmall
import Derived.Deep.QuietTactic
import Derived.BigQuiet
import Derived.Lib.Hide
import Derived.Lib.LaidTab
import Derived.Lib.ItoaNum
import Derived.IntWalk
namespace Go.Proofs.YtohlpeicpoaanaaGreatDoor
open Go.RowKit Kp
theorem ret_int {k:IntKind} {a b:Int} (h:a=b):Ending.returned (.int k a)=.returned (.int k b):=by rw [h]
theorem bne_of_t {α:Type} [BEq α] {a b:α} (h:(a == b)=true):(a != b)=false:=by simp [bne,h]
theorem bne_of_f {α:Type} [BEq α] {a b:α} (h:(a == b)=false):(a != b)=true:=by simp [bne,h]
theorem ba_get (l:Str) (k:Nat) (h:k<(⟨l.toArray⟩:ByteArray).size):(⟨l.toArray⟩:ByteArray)[k]=at0 l k:=by
 have h':k<l.length:=h
 rw [at0_get l k h']; rfl
attribute [go_sem] ba_get
theorem ba_ext {a b:ByteArray} (h:a.data.toList=b.data.toList):a=b:=by
 cases a; cases b; simp only at h; congr; exact Array.toList_inj.1 h
theorem ba_drop (l:Str) (k:Nat):(⟨l.toArray⟩:ByteArray).extract k l.length=⟨(dropS l k).toArray⟩:=by
 apply ba_ext; simp [dropS]; exact List.take_of_length_le (by simp)
theorem ba_take (l:Str) (k:Nat):(⟨l.toArray⟩:ByteArray).extract 0 k=⟨(takeS l k).toArray⟩:=by
 apply ba_ext; simp [takeS]
attribute [go_sem] ba_drop ba_take dropS_len takeS_len
theorem ba_app (a b:Str):(⟨a.toArray⟩:ByteArray)++⟨b.toArray⟩=⟨(a++b).toArray⟩:=by
 apply ba_ext; simp
attribute [go_sem] ba_app
def ng:Nat:=10
def StrsAt (w:World) (g:Nat) (l:List Str):Prop:=∃ t f,w.heap[g]?=some (.cells (l.map fun s=>Value.string ⟨s.toArray⟩).toArray t f)
def PlacesAt (w:World):Prop:=∃ t f,w.heap[9]?=some (.cells #[.int .i64 4,.int .i64 16,.int .i64 64] t f)
def primeStrs:List Str:=[[50],[51],[53],[55],[49,49],[49,51],[49,55],[49,57],[50,51],[50,57],[51,49],[51,55],[52,49],[52,51],[52,55],[53,51],[53,57],[54,49],[54,55],[55,49],[55,51],[55,57],[56,51],[56,57],[57,55]]
structure Env (w:World):Prop where
 size:ng≤w.heap.size
 maxlen:∃ m,w.cell? ⟨0,0,none⟩=some (.int .i64 m)
 pow10 : Lib.TabIs Tryz.prog w "internal/strconv.uint64pow10" .u64 Lib.pow10Tab
 errSyntax : ∃ tp p, w.var? Tryz.prog "strconv.ErrSyntax" = some #[.iface tp p]
 errRange : ∃ tp p, w.var? Tryz.prog "strconv.ErrRange" = some #[.iface tp p]
 primes:StrsAt w 6 primeStrs
 places:PlacesAt w
theorem gPow10 : Tryz.prog.globalNamed "internal/strconv.uint64pow10" = some 3 := by kernel_rfl
theorem gErrSyntax : Tryz.prog.globalNamed "strconv.ErrSyntax" = some 1 := by kernel_rfl
theorem gErrRange : Tryz.prog.globalNamed "strconv.ErrRange" = some 2 := by kernel_rfl
theorem StrsAt.below {w w':World} {g B:Nat} {l:List Str} (h:StrsAt w g l) (b:Below B w w') (hg:g<B):StrsAt w' g l:=by
 obtain ⟨t,f,h⟩:=h
 exact ⟨t,f,by rw [b.block g hg]; exact h⟩
theorem StrsAt.cell {w:World} {g:Nat} {l:List Str} (h:StrsAt w g l) (i:Nat) (hi:i<l.length):w.cell? ⟨g,i,none⟩=some (.string ⟨(l.getD i []).toArray⟩):=by
 obtain ⟨t,f,h⟩:=h
 have e:l.getD i []=l[i]:=by rw [List.getD_eq_getElem?_getD,List.getElem?_eq_getElem hi]; rfl
 rw [e]
 simp [World.cell?,h,hi]
theorem Env.below {w w' : World} (h : Env w) {B : Nat} (hB : ng ≤ B) (b : Below B w w') : Env w' := by
  obtain ⟨m, hm⟩ := h.maxlen
  obtain ⟨t1, p1, h1⟩ := h.errSyntax
  obtain ⟨t2, p2, h2⟩ := h.errRange
  exact
  { size := Nat.le_trans h.size b.size
    maxlen := ⟨m, by rw [b.cell (p := ⟨0, 0, none⟩) (Nat.lt_of_lt_of_le (by decide) hB)]; exact hm⟩
    pow10 := var?_below b gPow10 (Nat.lt_of_lt_of_le (by decide) hB) h.pow10
    errSyntax := ⟨t1, p1, var?_below b gErrSyntax (Nat.lt_of_lt_of_le (by decide) hB) h1⟩
    errRange := ⟨t2, p2, var?_below b gErrRange (Nat.lt_of_lt_of_le (by decide) hB) h2⟩
    primes := h.primes.below b (Nat.lt_of_lt_of_le (by decide) hB)
    places := by obtain ⟨t, f, hp⟩ := h.places; exact ⟨t, f, by rw [b.block _ (Nat.lt_of_lt_of_le (by decide) hB)]; exact hp⟩
 }
abbrev Q (w w':World):Prop:=Below w.heap.size w w'
theorem q_alloc {w W:World} (h:Q w W) (o:Obj):Q w (W.alloc o):=Below.alloc h h.size o
theorem bt {B:Nat} {a w:World} (h:Below B a w:=by repeat (first | exact Below.refl _ _ | assumption | with_reducible refine q_alloc ?_ _ | refine below_drewN ?_ _ | refine Below.drew ?_ | refine Below.alloc ?_ (by first | (simp; done) | (simp; omega)) _ | refine Below.setCell ?_ (by first | (simp; done) | (simp; omega)) _)):Below B a w:=h
theorem Env.q {w w':World} (h:Env w) (b:Below w.heap.size w w'):Env w':=h.below h.size b
theorem Env.ofQ {w0 w':World} (h:Env w0) (h2:Below w0.heap.size w0 w'):Env w':=h.below h.size h2
theorem Below.drewN {B:Nat} {a w:World} (h:Below B a w) (n:Nat):Below B a (w.drewN n):=by
 exact below_drewN h n
theorem Env.drewN {w:World} (h:Env w) (n:Nat):Env (w.drewN n):=h.q (Below.drewN (Below.refl _ _) n)
theorem Env.drew {w:World} (h:Env w):Env w.drew:=h.q (Below.refl _ _).drew
theorem Env.alloc {w:World} (h:Env w) (o:Obj):Env (w.alloc o):=h.q ((Below.refl _ _).alloc (Nat.le_refl _) o)
end Go.Proofs.YtohlpeicpoaanaaGreatDoor
