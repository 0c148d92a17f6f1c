/-
  Rows of any elements in memory.
-/
import Derived.Test.YtohlpeicpoaanaaGreatDoorBI1
namespace Go.Proofs.YtohlpeicpoaanaaGreatDoor
open Go.RowKit Kp
def RowSl {α:Type} (k:Nat) (enc:α→List Value) (w:World) (v:Value) (l:List α):Prop:=∃ a cap,v=.slice a l.length cap∧∀ i (h:i<l.length),∃ b o,a=some ⟨b,o,none⟩∧b<w.heap.size∧∀ j u,(enc l[i])[j]?=some u→w.cell? ⟨b,o+i*k+j,none⟩=some u
section
variable {α:Type} {k:Nat} {enc:α→List Value}
theorem RowSl.keepB {w w':World} {B:Nat} {v:Value} {l:List α} (h:RowSl k enc w v l) (hq:Below B w w') (hB:w.heap.size≤B):RowSl k enc w' v l:=by
 obtain ⟨a,cap,rfl,hc⟩:=h
 refine ⟨a,cap,rfl,fun i hi=>?_⟩
 obtain ⟨b,o,ha,hb,h⟩:=hc i hi
 exact ⟨b,o,ha,Nat.lt_of_lt_of_le hb hq.size,fun j u hu=>(hq.cell (p:=⟨b,o+i*k+j,none⟩) (show b<B by omega)).trans (h j u hu)⟩
theorem RowSl.keep {w w':World} {v:Value} {l:List α} (h:RowSl k enc w v l) (hq:Q w w'):RowSl k enc w' v l:=h.keepB hq (Nat.le_refl _)
theorem RowSl.nil (w:World) (a:Option Addr) (cap:Nat):RowSl k enc w (.slice a 0 cap) ([]:List α):=⟨a,cap,rfl,fun _ hi=>absurd hi (Nat.not_lt_zero _)⟩
def rowOf (enc:α→List Value) (l:List α):List Value:=l.flatMap enc
theorem rowOf_get (hk:∀ x,(enc x).length=k):∀ (l:List α) (i:Nat) (h:i<l.length) (j:Nat),j<k→(rowOf enc l)[i*k+j]?=(enc l[i])[j]?
 | [],i,h,_,_=>absurd h (Nat.not_lt_zero _)
 | x::l,0,_,j,hj=>by
  unfold rowOf
  rw [List.flatMap_cons,Nat.zero_mul,Nat.zero_add,List.getElem?_append_left (by rw [hk]; exact hj)]; rfl
 | x::l,i+1,h,j,hj=>by
  have ih:=rowOf_get hk l i (by simpa using h) j hj
  unfold rowOf at *
  rw [List.flatMap_cons,List.getElem?_append_right (by rw [hk,Nat.succ_mul]; omega),hk,show (i+1)*k+j - k=i*k+j by rw [Nat.succ_mul]; omega]
  exact ih
theorem rowOf_snoc (l:List α) (x:α):rowOf enc (l++[x])=rowOf enc l++enc x:=by unfold rowOf; rw [List.flatMap_append]; simp
theorem RowSl.of_row {w:World} {B:Nat} {t:TypeId} {v:Value} {l:List α} (hk:∀ x,(enc x).length=k) (h:w.ownsRow B t k v l.length (rowOf enc l)):RowSl k enc w v l:=by
 have h0:=h
 rcases h.2 with ⟨rfl,hn⟩ | ⟨g,cap,cur,rfl,hg,hc,hnc,hcm,hsz,htk⟩
 ·exact ⟨none,0,by rw [hn],fun i hi=>by omega⟩
 ·refine ⟨_,cap,rfl,fun i hi=>⟨g,0,rfl,(Array.getElem?_eq_some_iff.1 hc).1,fun j u hu=>?_⟩⟩
  have hj:j<k:=by have:=(List.getElem?_eq_some_iff.1 hu).1; rwa [hk] at this
  have hb:i*k+j<l.length*k:=by
   have h1:=Nat.mul_le_mul_right k (show i+1≤l.length from hi)
   rw [Nat.succ_mul] at h1; omega
  rw [Nat.zero_add,World.ownsRow.cellAt h0 (i*k+j) hb,rowOf_get hk l i hi j hj]
  exact hu
end
end Go.Proofs.YtohlpeicpoaanaaGreatDoor
