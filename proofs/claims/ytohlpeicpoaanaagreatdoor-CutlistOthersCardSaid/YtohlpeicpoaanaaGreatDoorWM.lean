/-
  Walks: root.check, of, negative, Normal at numbers with short parts.; Walks: root.Normal at numbers with short parts.; Walks: surd.visit and surd.Make at one term of small numbers.; Walks: timber.stretched, Square, Plumb at small numbers.; Walks: timber.Print.
-/
import Derived.Test.YtohlpeicpoaanaaGreatDoorWI
import Derived.Deep.RegionHeld3
import Derived.Deep.AppendLies
import Derived.Lib.SmallJoins
import Derived.Test.YtohlpeicpoaanaaGreatDoorBlk
import Derived.Test.YtohlpeicpoaanaaGreatDoorCA
import Derived.Test.YtohlpeicpoaanaaGreatDoorBuildB
import Derived.Lib.MinMax
namespace Go.Proofs.YtohlpeicpoaanaaGreatDoor
section
open Go.RowKit Kp
theorem quiet_same {P:Program} {f:FuncId} {args:Array Value} {w:World} {n:Nat} {v:Value}
  (h:Calls P f args (w.drewN n) fun e w'=>e=.returned v∧w.drewN n=w'):Calls P f args (w.drewN n) fun e w''=>e=.returned v∧∃ m,w''=w.drewN m :=
 h.mono fun _ _ ⟨he,hm⟩=>⟨he,n,hm.symm⟩
def StrSl (w:World) (v:Value) (l:List Str):Prop :=
 ∃ b off cap,v=.slice (some ⟨b,off,none⟩) l.length cap∧b<w.heap.size∧∀ i,i<l.length→w.cell? ⟨b,off+i,none⟩=some (.string ⟨(l.getD i []).toArray⟩)
set_option maxHeartbeats 400000 in
theorem root_negative (s:Str) (w:World) :
  Calls Tryz.prog 230 #[.string ⟨s.toArray⟩] w fun e w'=>e=.returned (.bool (decide (s.head?=some 45)))∧w=w':=by
 go_enter Tryz.func230,Tryz.ntmps230
 go_wp2_with fail
 refine (lib_HasMinus s _).mono ?_
 rintro e w1 ⟨rfl,rfl⟩
 go_wp2
 go_ret
 exact ⟨rfl,rfl⟩
theorem ret_of (tmps:Array Value) (W:World) (b:Nat) (x y:Value) (hp:tmps.getD 2 undef=.pointer (some ⟨b,0,none⟩))
  (c0:W.cell? ⟨b,0,none⟩=some x) (c1:W.cell? ⟨b,1,none⟩=some y) :
  (results Tryz.f193 tmps).run Tryz.prog W=.ok (.agg #[x,y]) W:=by
 simp only [Array.getD_eq_getD_getElem?] at hp
 simp [results,Tryz.results193,go_sem,hp,c0,c1]
theorem rstr_head (q:Rat):(rstr q).head?=some 45 ↔ q.num<0:=by
 unfold rstr; split
 ·have:=head_itoa q.num []; rw [List.append_nil] at this; exact this
 ·exact head_itoa q.num _
end
section
open Go.RowKit Kp
theorem StrSl.one {w:World} {b:Nat} {s:Str} {t:TypeId} (h:Blk w b [.string ⟨s.toArray⟩] t):StrSl w (.slice (some ⟨b,0,none⟩) 1 1) [s]:=by
 refine ⟨b,0,1,rfl,h.lt,?_⟩
 intro i hi
 obtain rfl:i=0:=by simpa using hi
 exact h.cell 0
theorem itoa_ne_zero {n:Int} (h:0<n):(Lib.itoa n == [48])=false:=by
 rw [beq_eq_false_iff_ne,← itoa_zero]
 intro hx
 have:=itoa_inj hx
 omega
theorem nativeNormal_int (x:Int) (d:Nat) (hn:0<x) (hd:0<d) (hnd:x.toNat*d<100000000000000000) (w:World) (hE:Env w) :
  Calls Tryz.prog 195 #[.int .i64 x,.int .i64 d] w fun e w'=>e=.returned (.tuple #[.string ⟨(rstr (Rat.divInt (normM (x.toNat*d)).1 d)).toArray⟩,.string ⟨(Lib.itoa ((normM (x.toNat*d)).2:Int)).toArray⟩])∧Q w w':=by
 obtain ⟨n,rfl⟩:∃ n:Nat,x=n:=⟨x.toNat,by omega⟩
 rw [Int.toNat_natCast] at *
 exact root_nativeNormal n d (by omega) hd hnd w hE
set_option maxHeartbeats 400000 in
theorem surd_digits (s:Str) (w:World) :
  Calls Tryz.prog 244 #[.string ⟨s.toArray⟩] w fun e w'=>e=.returned (.int .i64 (unsig s).length)∧w=w':=by
 go_enter Tryz.func244,Tryz.ntmps244
 go_wp2_with fail
 refine (lib_TrimMinus s _).mono ?_
 rintro e w1 ⟨rfl,rfl⟩
 go_wp2
 go_ret
 exact ⟨rfl,rfl⟩
def longV (q:Rat):Int:=max ((unsig (Lib.itoa q.num)).length:Int) ((unsig (Lib.itoa (q.den:Int))).length:Int)
theorem longV_nonneg (q:Rat):0≤longV q:=by unfold longV; omega
theorem infoClass:(Tryz.prog.info? 293).map (fun i=>(i.zero,i.size,i.bytes))=some (some (.agg #[.string ⟨#[]⟩,.string ⟨#[]⟩]),2,32):=by kernel_rfl
theorem infoTerm:(Tryz.prog.info? 225).map (fun i=>(i.zero,i.size,i.bytes))=some (some (.agg #[.string ⟨#[]⟩,.string ⟨#[]⟩]),2,32):=by kernel_rfl
theorem info_of {P:Program} {t:TypeId} {z:Value} {n m:Nat} (h:(P.info? t).map (fun i=>(i.zero,i.size,i.bytes))=some (some z,n,m)):∃ i,P.info? t=some i∧i.zero=some z∧i.size=n∧i.bytes=m:=by
 cases hi:P.info? t with
 | none=>rw [hi] at h; simp at h
 | some i=>rw [hi] at h; simp at h; exact ⟨i,rfl,h.1,h.2.1,h.2.2⟩
theorem grow_facts {w w1:World} {G T:Nat} {o x y:Value} (hg:w.grownBy w1 none) (hG:G<w.heap.size) (hT:T<w.heap.size) (hne:G≠T) (c:w.cell? ⟨G,0,none⟩=some o)
  (d0:w.cell? ⟨T,0,none⟩=some x) (d1:w.cell? ⟨T,1,none⟩=some y) (kf:w.frozen? ⟨G,0,none⟩=false) :
  w1.cell? ⟨G,0,none⟩=some o∧∀ v,(w1.setCell ⟨G,0,none⟩ v).cell? ⟨T,0,none⟩=some x∧(w1.setCell ⟨G,0,none⟩ v).cell? ⟨T,1,none⟩=some y∧(w1.setCell ⟨G,0,none⟩ v).frozen? ⟨G,0,none⟩=false:=by
 refine ⟨(hg.cell_far _ hG (by simp)).trans c,fun v=>⟨?_,?_,?_⟩⟩
 ·exact (World.cell?_setCell_other w1 ⟨G,0,none⟩ ⟨T,0,none⟩ v (by intro h; exact hne (congrArg Addr.block h))).trans ((hg.cell_far _ hT (by simp)).trans d0)
 ·exact (World.cell?_setCell_other w1 ⟨G,0,none⟩ ⟨T,1,none⟩ v (by simp)).trans ((hg.cell_far _ hT (by simp)).trans d1)
 ·rw [World.frozen?_setCell]; exact (hg.frozen_far _ hG (by simp)).trans kf
theorem grow_fz {w1:World} {G T:Nat} {x y:Value} (h:∀ v,(w1.setCell ⟨G,0,none⟩ v).cell? ⟨T,0,none⟩=some x∧(w1.setCell ⟨G,0,none⟩ v).cell? ⟨T,1,none⟩=some y∧(w1.setCell ⟨G,0,none⟩ v).frozen? ⟨G,0,none⟩=false):w1.frozen? ⟨G,0,none⟩=false:=by
 have:=(h (.int .i64 0)).2.2
 rw [World.frozen?_setCell] at this; exact this
theorem add_world {w w1:World} {G g cap:Nat} {s1 s2:Str} {A B:Obj} (hG:Blk w G [.slice none 0 0] 290) (hgrow:((w.alloc A).alloc B).drew.grownBy w1 none)
  (hown:w1.ownsRow (G+1) 293 2 (.slice (some ⟨g,0,none⟩) 1 cap) 1 [.string ⟨s1.toArray⟩,.string ⟨s2.toArray⟩]) :
  Below G w (w1.setCell ⟨G,0,none⟩ (.slice (some ⟨g,0,none⟩) 1 cap)) ∧
   ∃ v,Blk (w1.setCell ⟨G,0,none⟩ (.slice (some ⟨g,0,none⟩) 1 cap)) G [v] 290∧(w1.setCell ⟨G,0,none⟩ (.slice (some ⟨g,0,none⟩) 1 cap)).ownsRow (G+1) 293 2 v 1 [.string ⟨s1.toArray⟩,.string ⟨s2.toArray⟩]:=by
 have l0:=hG.lt
 have hl:G<((w.alloc A).alloc B).drew.heap.size:=by simp; omega
 have b1:Below G w ((w.alloc A).alloc B).drew:=(((Below.refl G w).alloc (by omega) A).alloc (by simp; omega) B).drew
 have b2:Below G w w1:=b1.grown hgrow (by omega) (by simp)
 have bG:Blk w1 G [.slice none 0 0] 290:=(hgrow.block G hl (by simp)).trans ((hG.alloc A).alloc B)
 refine ⟨b2.setCell (p:=⟨G,0,none⟩) (Nat.le_refl _) _,_,bG.set 0 _,ownsRow_setCell_below hown (by simp) _⟩
set_option maxRecDepth 100000 in
set_option maxHeartbeats 1000000 in
theorem gatherer_add_empty (G:Nat) (s1 s2:Str) (w:World) (hG:Blk w G [.slice none 0 0] 290) :
  Calls Tryz.prog 210 #[.pointer (some ⟨G,0,none⟩),.agg #[.string ⟨s1.toArray⟩,.string ⟨s2.toArray⟩]] w fun e w'=>e=.returned (.int .i64 0)∧Below G w w' ∧
   ∃ v,Blk w' G [v] 290∧w'.ownsRow (G+1) 293 2 v 1 [.string ⟨s1.toArray⟩,.string ⟨s2.toArray⟩]:=by
 have c0:=hG.cell 0
 have f0:=hG.frozen 0
 have l0:=hG.lt
 simp only [List.getElem?_cons_zero] at c0
 obtain ⟨i0,hi,hz0,hz1,hz2⟩:=info_of infoClass
 have HI:=LH hi
 have HZ:=LH hz0
 have HS:=LH hz1
 have HB:=LH hz2
 clear hi hz0 hz1 hz2
 go_enter Tryz.func210,Tryz.ntmps210
 go_wp2
 go_loop [19] (fun i=>i=.int .i64 0) (fun _=>0)
 case atStart=>rfl
 case round =>
  subst hrel
  go_wp2
  have t0:=World.new_ne w ⟨G,0,none⟩ c0
  have hsz:(w.alloc (Obj.cells #[.string ⟨s1.toArray⟩,.string ⟨s2.toArray⟩] 225)).heap.size=w.heap.size+1:=by simp
  have BT:=Blk.new w [.string ⟨s1.toArray⟩,.string ⟨s2.toArray⟩] 225
  have hnew:((w.alloc (Obj.cells #[.string ⟨s1.toArray⟩,.string ⟨s2.toArray⟩] 225)).alloc (Obj.cells #[.string ⟨s1.toArray⟩,.string ⟨s2.toArray⟩] 293)).heap[w.heap.size+1]?=some (.cells #[.string ⟨s1.toArray⟩,.string ⟨s2.toArray⟩] 293 (0,0)):=by rw [← hsz]; exact heap_alloc_new _ _
  have k0:=(hG.alloc (Obj.cells #[.string ⟨s1.toArray⟩,.string ⟨s2.toArray⟩] 225)).cell 0
  have d0:=BT.cell 0
  have d1:=BT.cell 1
  have kf:=(hG.alloc (Obj.cells #[.string ⟨s1.toArray⟩,.string ⟨s2.toArray⟩] 225)).frozen 0
  have k02:=((hG.alloc (Obj.cells #[.string ⟨s1.toArray⟩,.string ⟨s2.toArray⟩] 225)).alloc (Obj.cells #[.string ⟨s1.toArray⟩,.string ⟨s2.toArray⟩] 293)).cell 0
  simp only [List.getElem?_cons_zero] at k02
  have d02:=(BT.alloc (Obj.cells #[.string ⟨s1.toArray⟩,.string ⟨s2.toArray⟩] 293)).cell 0
  have d12:=(BT.alloc (Obj.cells #[.string ⟨s1.toArray⟩,.string ⟨s2.toArray⟩] 293)).cell 1
  simp only [zs4,zs5] at d02 d12
  have hGT:G≠w.heap.size:=by omega
  have hlG:G<((w.alloc (Obj.cells #[.string ⟨s1.toArray⟩,.string ⟨s2.toArray⟩] 225)).alloc (Obj.cells #[.string ⟨s1.toArray⟩,.string ⟨s2.toArray⟩] 293)).heap.size:=by simp; omega
  have hlT:w.heap.size<((w.alloc (Obj.cells #[.string ⟨s1.toArray⟩,.string ⟨s2.toArray⟩] 225)).alloc (Obj.cells #[.string ⟨s1.toArray⟩,.string ⟨s2.toArray⟩] 293)).heap.size:=by simp; omega
  have kf2:=((hG.alloc (Obj.cells #[.string ⟨s1.toArray⟩,.string ⟨s2.toArray⟩] 225)).alloc (Obj.cells #[.string ⟨s1.toArray⟩,.string ⟨s2.toArray⟩] 293)).frozen 0
  have hQ0:Below G w (w.alloc (Obj.cells #[.string ⟨s1.toArray⟩,.string ⟨s2.toArray⟩] 225)):=(Below.refl G w).alloc (by omega) _
  simp only [zs4,zs5] at k0 d0 d1
  go_region_law
   (first | (refine step_append_lies _ (by rfl) (.tmp 73) (.tmp 79) 288 (by rfl) (G+1) 293 i0 _ 2 32 Tryz.underlying288 HI.out HZ.out HS.out HB.out rfl (by decide) (.slice none 0 0) 0 [] (by rfl) (World.ownsRow_nil _ _ _ _) ⟨w.heap.size+1,0,none⟩ 1 1 [.string ⟨s1.toArray⟩,.string ⟨s2.toArray⟩] (by rfl) (by rfl) (World.news_of_block (cs:=#[.string ⟨s1.toArray⟩,.string ⟨s2.toArray⟩]) (t:=293) (fr:=(0,0)) hnew) (by simp [Value.oneCell']) (by decide) (by decide) (by decide) (by simp; omega) (w.heap.size+2) (by simp) ?_; intro g cap w1 hown hgrow hat hlt; have hh:=grow_facts (w1:=w1) (T:=w.heap.size) (x:=.string ⟨s1.toArray⟩) (y:=.string ⟨s2.toArray⟩) hgrow hlG hlT hGT k02 d02 d12 kf2; have c1:=hh.1; have fz:=grow_fz hh.2))
  all_goals go_wp2
  all_goals go_ret
  all_goals exact ⟨rfl,add_world hG hgrow hown⟩
end
section
open Go.RowKit Kp
set_option maxHeartbeats 400000 in
theorem insertionSort_one (ad:Option Addr) (cap:Nat) (f:Value) (w:World) :
  Calls Tryz.prog 263 #[.slice ad 1 cap,.int .i64 0,.int .i64 1,f] w fun e w'=>(∃ v,e=.returned v)∧w=w':=by
 go_enter Tryz.func263,Tryz.ntmps263
 go_wp2
 go_loop [8] (fun i=>i=.int .i64 1) (fun _=>0)
 case atStart=>rfl
 case round =>
  subst hrel
  go_wp2
  go_end0
  exact ⟨⟨_,rfl⟩,rfl⟩
set_option maxHeartbeats 400000 in
theorem pdqsort_one (ad:Option Addr) (cap:Nat) (k:Int) (f:Value) (w:World) :
  Calls Tryz.prog 245 #[.slice ad 1 cap,.int .i64 0,.int .i64 1,.int .i64 k,f] w fun e w'=>(∃ v,e=.returned v)∧w=w':=by
 go_enter Tryz.func245,Tryz.ntmps245
 go_wp2
 go_loop [1,2,3] (fun x y _=>x=.int .i64 0∧y=.int .i64 1) (fun _ _ _=>0)
 case atStart=>exact ⟨rfl,rfl⟩
 case round =>
  obtain ⟨rfl,rfl⟩:=hrel
  go_wp2_with fail
  refine (insertionSort_one ad cap f _).mono ?_
  rintro e w1 ⟨⟨v,rfl⟩,rfl⟩
  go_wp2
  (try simp only [Exit.inBlock,Exit.then])
  refine bodyPost_ret (results_none rfl _ _ _) rfl ?_
  exact ⟨⟨_,rfl⟩,rfl⟩
set_option maxHeartbeats 400000 in
theorem sortFunc_one (ad:Option Addr) (cap:Nat) (f:Value) (w:World) :
  Calls Tryz.prog 212 #[.slice ad 1 cap,f] w fun e w'=>(∃ v,e=.returned v)∧w=w':=by
 go_enter Tryz.func212,Tryz.ntmps212
 go_wp2_with fail
 refine (Tryz.bits_Len _ _ (by omega) (by omega)).mono ?_
 rintro e w1 ⟨rfl,rfl⟩
 go_wp2_with fail
 refine (pdqsort_one ad cap _ f _).mono ?_
 rintro e w1 ⟨⟨v,rfl⟩,rfl⟩
 go_wp2
 go_end0
 exact ⟨⟨_,rfl⟩,rfl⟩
theorem rstr_nat (n:Nat):rstr (n:Rat)=Lib.itoa (n:Int):=by
 unfold rstr; rw [if_pos (Rat.den_natCast n),Rat.num_natCast]
theorem rstr_zero:rstr 0=[48]:=by
 have:=rstr_nat 0; rw [show ((0:Nat):Rat)=0 from rfl] at this; rw [this]; exact itoa_zero
theorem rstr_one:rstr 1=[49]:=by
 have:=rstr_nat 1; rw [show ((1:Nat):Rat)=1 from rfl] at this; rw [this]; exact itoa_one
end
section
open Go.RowKit Kp
theorem small_of {q:Rat} {n:Int} {d:Nat} (hn:q.num=n) (hd:q.den=d) (h:n.natAbs<100000000∧d<100000000):Small8 q:=by
 unfold Small8; rw [hn,hd]; exact h
theorem s1:Small8 ((1:Nat):Rat):=small_of (n:=1) (d:=1) (by kernel_rfl) (by kernel_rfl) (by decide)
theorem v45:Rat.divInt ((20:Nat):Int) ((25:Nat):Int)=4/5:=by kernel_rfl
theorem v1:((1:Nat):Rat)=1:=by kernel_rfl
end
section
open Go.RowKit Kp
abbrev PrS (w:World) (T G K:Nat) (a0 a1 a2 aw:Value) (W:World):Prop :=
 Blk W T [a0,a1,a2] 39∧W.cell? ⟨T,0,none⟩=some a0∧W.cell? ⟨T,1,none⟩=some a1∧W.cell? ⟨T,2,none⟩=some a2∧W.cell? ⟨G,K,none⟩=some aw∧Q w W
theorem PrS.mk {w W:World} {T G K:Nat} {a0 a1 a2 aw:Value} (h:Blk W T [a0,a1,a2] 39) (hw:W.cell? ⟨G,K,none⟩=some aw) (hq:Q w W):PrS w T G K a0 a1 a2 aw W :=
 ⟨h,h.cell 0,h.cell 1,h.cell 2,hw,hq⟩
theorem PrS.q {w W:World} {T G K:Nat} {a0 a1 a2 aw:Value} (h:PrS w T G K a0 a1 a2 aw W):Q w W:=h.2.2.2.2.2
theorem PrS.keep {w W W':World} {T G K:Nat} {a0 a1 a2 aw:Value} (h:PrS w T G K a0 a1 a2 aw W) (hq:Q W W'):PrS w T G K a0 a1 a2 aw W' :=
 .mk (h.1.keep hq h.1.lt) ((hq.cell (World.block_lt_of_cell? W _ h.2.2.2.2.1)).trans h.2.2.2.2.1) (h.q.trans (hq.mono h.q.size))
theorem add_rule (P:Program) (a b:Str) (h:a.length+b.length≤1000) (w:World):(Op.stringOp .add ⟨a.toArray⟩ ⟨b.toArray⟩).run P w=.ok (.string ⟨(a++b).toArray⟩) w:=by
 rw [run_string_add_sum w _ _ (by show a.length+b.length≤_; omega),ByteArray.mk_append_mk]
end
end Go.Proofs.YtohlpeicpoaanaaGreatDoor
