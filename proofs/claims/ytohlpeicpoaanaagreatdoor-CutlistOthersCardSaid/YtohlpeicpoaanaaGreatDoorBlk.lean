/-
  Blocks of cells that a call has laid.
-/
import Derived.Test.YtohlpeicpoaanaaGreatDoorEnv
namespace Go.Proofs.YtohlpeicpoaanaaGreatDoor
open Go.RowKit Kp
def Blk (w:World) (b:Nat) (cs:List Value) (t:TypeId):Prop:=w.heap[b]?=some (.cells cs.toArray t (0,0))
theorem Blk.new (w:World) (cs:List Value) (t:TypeId):Blk (w.alloc (.cells cs.toArray t)) w.heap.size cs t:=heap_alloc_new w _
theorem Blk.keep {w w':World} {b B:Nat} {cs:List Value} {t:TypeId} (h:Blk w b cs t) (hb:Below B w w') (hB:b<B):Blk w' b cs t:=by
 unfold Blk; rw [hb.block b hB]; exact h
theorem Blk.lt {w:World} {b:Nat} {cs:List Value} {t:TypeId} (h:Blk w b cs t):b<w.heap.size:=(Array.getElem?_eq_some_iff.1 h).1
theorem Blk.cell {w:World} {b:Nat} {cs:List Value} {t:TypeId} (h:Blk w b cs t) (i:Nat):w.cell? ⟨b,i,none⟩=cs[i]?:=by
 unfold Blk at h; simp [World.cell?,h]
theorem Blk.frozen {w:World} {b:Nat} {cs:List Value} {t:TypeId} (h:Blk w b cs t) (i:Nat):w.frozen? ⟨b,i,none⟩=false:=by
 unfold Blk at h; simp [World.frozen?,h]
theorem Blk.alloc {w:World} {b:Nat} {cs:List Value} {t:TypeId} (h:Blk w b cs t) (o:Obj):Blk (w.alloc o) b cs t:=by
 unfold Blk; rw [Below.heap_alloc w o b h.lt]; exact h
theorem Blk.drewN {w:World} {b:Nat} {cs:List Value} {t:TypeId} (h:Blk w b cs t) (n:Nat):Blk (w.drewN n) b cs t:=h
theorem Blk.drew {w:World} {b:Nat} {cs:List Value} {t:TypeId} (h:Blk w b cs t):Blk w.drew b cs t:=h
theorem Blk.set {w:World} {b:Nat} {cs:List Value} {t:TypeId} (h:Blk w b cs t) (i:Nat) (v:Value):Blk (w.setCell ⟨b,i,none⟩ v) b (cs.set i v) t:=by
 unfold Blk at *; simp [World.setCell,Array.getElem?_modify,h]
theorem Blk.setOther {w:World} {b b':Nat} {cs:List Value} {t:TypeId} (h:Blk w b cs t) (hne:b'≠b) (i:Nat) (v:Value):Blk (w.setCell ⟨b',i,none⟩ v) b cs t:=by
 unfold Blk at *; simp [World.setCell,Array.getElem?_modify,h,hne]
theorem ownsRow_keep {w w':World} {base size n:Nat} {e:TypeId} {v:Value} {xs:List Value} (h:w.ownsRow base e size v n xs) (hb:Below w.heap.size w w'):w'.ownsRow base e size v n xs:=by
 refine ⟨h.1,h.2.elim Or.inl ?_⟩
 rintro ⟨g,cap,cur,hv,hg,hc,r⟩
 exact Or.inr ⟨g,cap,cur,hv,hg,(hb.block g (Array.getElem?_eq_some_iff.1 hc).1).trans hc,r⟩
theorem Blk.new1 (w:World) (o:Obj) (cs:List Value) (t:TypeId):Blk ((w.alloc o).alloc (.cells cs.toArray t)) (w.heap.size+1) cs t:=by
 have h:=Blk.new (w.alloc o) cs t
 rwa [World.size_alloc] at h
theorem Blk.new2 (w:World) (o o':Obj) (cs:List Value) (t:TypeId):Blk (((w.alloc o).alloc o').alloc (.cells cs.toArray t)) (w.heap.size+2) cs t:=by
 have h:=Blk.new ((w.alloc o).alloc o') cs t
 rwa [World.size_alloc,World.size_alloc] at h
end Go.Proofs.YtohlpeicpoaanaaGreatDoor
