/-
  Frm Opn Wit, one behind the other.; A slice of pieces as an argument.
-/
import Derived.Test.YtohlpeicpoaanaaGreatDoorCards
import Derived.Test.YtohlpeicpoaanaaGreatDoorTie
import Derived.Test.YtohlpeicpoaanaaGreatDoorEnv
import Derived.Test.YtohlpeicpoaanaaGreatDoorCA
import Derived.ProofKit
import Derived.OpenShut
import Derived.SizedLaws
import Derived.Deep.DeepHandedRow
import Derived.Deep.DeepWitnessRowRef
import Derived.Deep.Slices
import Derived.Deep.Fields
import Derived.ChangeSame
import Derived.Carry
import Derived.Shelf.Vars
import Derived.Test.YtohlpeicpoaanaaGreatDoorCC
namespace Go.Proofs.YtohlpeicpoaanaaGreatDoor
section
open Go.ChangeShapes Go.WideShapes Go.ChangeAt Go.RowKit Go.Deep Kp
theorem own:ownKnob Tryz.prog.godebug=none:=by kernel_rfl
theorem laidOut:laidOutB Tryz.prog=true:=by kernel_rfl
theorem laidVars_mem {P:Program} {w:World} {n:String} {d:DataW Unit}:∀ {l:List (String × DataW Unit)} {ps:List MemPlace},DataW.LaidVars P w l ps→(n,d)∈l →
  ∃ g t cs fuel p,P.globalNamed n=some g∧(P.globals[g]?).map (·.type)=some t∧w.var? P n=some cs∧DataW.trod (fun _=>()) P w 0 (fun _=>true) false fuel t cs.toList=some (d,p)
 | [],_,_,hm=>by cases hm
 | (m,e)::r,ps,h,hm=>by
  obtain ⟨g,t,cs,fuel,p,q,e1,e2,e3,e4,hr,rfl⟩:=h
  rcases List.mem_cons.1 hm with hm | hm
  ·cases hm; exact ⟨g,t,cs,fuel,p,e1,e2,e3,e4⟩
  ·exact laidVars_mem hr hm
theorem cells_of_strs {H:Type} {enc:TypeId × Value→H} {P:Program} {w:World} {base:Nat} {sp:Nat→Bool} {held:Bool} {fuel:Nat} {t e:TypeId} {n:Nat} {cs:List Value} {ls:List Str} {p:List MemPlace}
  (ht:P.underlying t=some (.array n e)) (he:P.underlying e=some .string) (hce:P.cellsOf e=1) (hct:P.cellsOf t=n)
  (h:DataW.trod enc P w base sp held fuel t cs=some (.agg (ls.map fun s=>.lit (.string s)),p)):cs=ls.map fun s=>Value.string ⟨s.toArray⟩:=by
 cases fuel with
 | zero=>simp [DataW.trod] at h
 | succ fuel =>
  simp only [DataW.trod,ht,hce,hct,Nat.mul_one] at h
  split at h
  ·rename_i hl
   obtain ⟨xs,hm,hx⟩:=Option.map_eq_some_iff.1 h
   have hxs:xs.map (·.1)=ls.map fun s=>(DataW.lit (.string s):DataW H):=by
    have:=congrArg Prod.fst hx
    simpa using this
   have hxl:xs.length=n:=by simpa using Lib.mapM_length hm
   have hzl:ls.length=n:=by
    have:=congrArg List.length hxs
    simp at this
    omega
   apply List.ext_getElem?
   intro i
   by_cases hi:i<n
   ·obtain ⟨b,hb,hf⟩:=Lib.mapM_at hm i i (by simp [hi])
    obtain ⟨z,hc,rfl,_⟩:=DataW.trod_string he hf
    have h1:cs[i]?=some (.string z):=by
     have:=congrArg (·[0]?) hc
     simpa [List.getElem?_take,List.getElem?_drop] using this
    have h2:(xs.map (·.1))[i]?=some (DataW.lit (.string z.data.toList):DataW H):=by simp [hb]
    rw [hxs] at h2
    simp only [List.getElem?_map,Option.map_eq_some_iff,DataW.lit.injEq,Lit.string.injEq] at h2
    obtain ⟨z',hz',he'⟩:=h2
    have e3:z=⟨z'.toArray⟩:=by rw [he']
    simp [h1,hz',e3]
   ·rw [List.getElem?_eq_none (by omega),List.getElem?_eq_none (by simp; omega)]
  ·cases h
theorem strsAt_of {P:Program} {w:World} {name:String} {g:Nat} {l:List Str} {cs:Array Value} (hg:P.globalNamed name=some g) (hv:w.var? P name=some cs) (hc:cs.toList=l.map fun s=>Value.string ⟨s.toArray⟩):StrsAt w g l:=by
 unfold World.var? at hv
 rw [hg] at hv
 simp only [Option.bind_some] at hv
 cases hh:w.heap[g]? with
 | none=>rw [hh] at hv; cases hv
 | some o =>
  rw [hh] at hv
  cases o <;> simp at hv
  rename_i c t f
  subst hv
  exact ⟨t,f,by rw [hh,← hc]⟩
theorem lt_of_shaped {P:Program} {w:World} {g:Nat} (h:w.ShapedOpen P) (hg:g<P.globals.size) (h0:(((begin P (fun _ _=>0) default).world.heap[g]?).bind Obj.row?).isSome=true):g<w.heap.size:=by
 obtain ⟨⟨zero,t⟩,e⟩:=Option.isSome_iff_exists.1 h0
 obtain ⟨cs,hh,_⟩:=h.1 g zero t hg e
 exact (Array.getElem?_eq_some_iff.1 hh).1
theorem gPrimes : Tryz.prog.globalNamed "kingpost/root.primes" = some 6 := by kernel_rfl
theorem tPow10:(Tryz.prog.globals[3]?).map (·.type)=some 254:=by kernel_rfl
theorem tPrimes:(Tryz.prog.globals[6]?).map (·.type)=some 303:=by kernel_rfl
theorem tErrSyntax:(Tryz.prog.globals[1]?).map (·.type)=some 100:=by kernel_rfl
theorem tErrRange:(Tryz.prog.globals[2]?).map (·.type)=some 100:=by kernel_rfl
theorem cPow10:Tryz.prog.cellsOf 254=20:=by kernel_rfl
theorem cU64:Tryz.prog.cellsOf 134=1:=by kernel_rfl
theorem cPrimes:Tryz.prog.cellsOf 303=25:=by kernel_rfl
theorem cString:Tryz.prog.cellsOf 9=1:=by kernel_rfl
theorem gPlaces : Tryz.prog.globalNamed "kingpost/surd.signPlaces" = some 9 := by kernel_rfl
theorem tPlaces:(Tryz.prog.globals[9]?).map (·.type)=some 353:=by kernel_rfl
theorem cPlaces:Tryz.prog.cellsOf 353=3:=by kernel_rfl
theorem cInt:Tryz.prog.cellsOf 3=1:=by kernel_rfl
theorem intsAt_of {P:Program} {w:World} {name:String} {g:Nat} {l:List Int} {cs:Array Value} (hg:P.globalNamed name=some g) (hv:w.var? P name=some cs) (hc:cs.toList=l.map fun z=>Value.int .i64 z):∃ t f,w.heap[g]?=some (.cells (l.map fun z=>Value.int .i64 z).toArray t f):=by
 unfold World.var? at hv
 rw [hg] at hv
 simp only [Option.bind_some] at hv
 cases hh:w.heap[g]? with
 | none=>rw [hh] at hv; cases hv
 | some o =>
  rw [hh] at hv
  cases o <;> simp at hv
  rename_i c t f
  subst hv
  exact ⟨t,f,by rw [← hc]⟩
theorem iface_of {W:World} {name nm:String} {cs:Array Value} {fuel:Nat} {d:DataW Unit} {p:List MemPlace} (hv:W.var? Tryz.prog name=some cs) (hd:DataW.trod (fun _=>()) Tryz.prog W 0 (fun _=>true) false fuel 100 cs.toList=some (.iface nm d,p)) :
  ∃ tp q,W.var? Tryz.prog name=some #[.iface tp q]:=by
 obtain ⟨_,u,v,e,_⟩:=iface_of_trod Tryz.underlying100 hd
 exact ⟨u,v,by rw [hv]; congr 1; exact Array.toList_inj.1 e⟩
structure Listed (L:List (String × DataW Unit)):Prop where
 plain:(L.all fun x=>x.2.handleName?.isNone)=true
 pow10 : ("internal/strconv.uint64pow10", Rows.laid_internal_strconv_uint64pow10) ∈ L
 errSyntax : ("strconv.ErrSyntax", Rows.laid_strconv_ErrSyntax) ∈ L
 errRange : ("strconv.ErrRange", Rows.laid_strconv_ErrRange) ∈ L
 primes : ("kingpost/root.primes", Rows.laid_kingpost_root_primes) ∈ L
 places : ("kingpost/surd.signPlaces", Rows.laid_kingpost_surd_signPlaces) ∈ L
theorem Env.of {W : World} {L : List (String × DataW Unit)} (hsh : W.ShapedOpen Tryz.prog) (hl : laidMetH Tryz.prog L W) (hL : Listed L) : Env W := by
  have hl := (laidMetH_iff.1 hl).1
  rw [List.filter_eq_self.2 (fun x hx => List.all_eq_true.1 hL.plain x hx)] at hl
  obtain ⟨ps, hv, _⟩ := hl
  obtain ⟨g1, t1, cs1, f1, p1, a1, b1, c1, d1⟩ := laidVars_mem hv hL.pow10
  obtain ⟨g2, t2, cs2, f2, p2, a2, b2, c2, d2⟩ := laidVars_mem hv hL.errSyntax
  obtain ⟨g3, t3, cs3, f3, p3, a3, b3, c3, d3⟩ := laidVars_mem hv hL.errRange
  obtain ⟨g4, t4, cs4, f4, p4, a4, b4, c4, d4⟩ := laidVars_mem hv hL.primes
  obtain rfl := Option.some.inj (a1.symm.trans gPow10)
  obtain rfl := Option.some.inj (a2.symm.trans gErrSyntax)
  obtain rfl := Option.some.inj (a3.symm.trans gErrRange)
  obtain rfl := Option.some.inj (a4.symm.trans gPrimes)
  obtain rfl := Option.some.inj (b1.symm.trans tPow10)
  obtain rfl := Option.some.inj (b2.symm.trans tErrSyntax)
  obtain rfl := Option.some.inj (b3.symm.trans tErrRange)
  obtain rfl := Option.some.inj (b4.symm.trans tPrimes)
  obtain ⟨g6, t6, cs6, f6, p6, a6, b6, c6, d6⟩ := laidVars_mem hv hL.places
  obtain rfl := Option.some.inj (a6.symm.trans gPlaces)
  obtain rfl := Option.some.inj (b6.symm.trans tPlaces)
  have e6 : (Rows.laid_kingpost_surd_signPlaces : DataW Unit) = Lib.tabData .i64 [4, 16, 64] := rfl
  rw [e6] at d6
  have e1 : (Rows.laid_internal_strconv_uint64pow10 : DataW Unit) = Lib.tabData .u64 Lib.pow10Tab := rfl
  have e4 : (Rows.laid_kingpost_root_primes : DataW Unit) = .agg (primeStrs.map fun s => .lit (.string s)) := rfl
  rw [e1] at d1
  rw [e4] at d4
  exact
  { size := Nat.succ_le_of_lt (lt_of_shaped (g := ng - 1) hsh (of_decide_eq_true (by kernel_rfl)) (by kernel_rfl))
    maxlen := cell_of_shapedOpen_int (zero := #[.int .i64 0]) (t := 3) hsh (of_decide_eq_true (by kernel_rfl)) (by kernel_rfl) rfl (by kernel_rfl) (by kernel_rfl) Tryz.underlying3
    pow10 := by unfold Lib.TabIs; rw [c1, ← Lib.cells_of_tab Tryz.underlying254 Tryz.underlying134 cU64 cPow10 d1]
    errSyntax := iface_of c2 d2
    errRange := iface_of c3 d3
    primes := strsAt_of gPrimes c4 (cells_of_strs Tryz.underlying303 Tryz.underlying9 cString cPrimes d4)
    places := intsAt_of (l := [4, 16, 64]) gPlaces c6 (Lib.cells_of_tab Tryz.underlying353 Tryz.underlying3 cInt cPlaces d6)
 }
end
section
open Go.ChangeShapes Go.WideShapes Go.ChangeAt Go.RowKit Go.Deep Kp
section
variable {H:Type} {enc:TypeId × Value→H} {P:Program} {w:World} {base:Nat} {spare:Nat→Bool} {held:Bool}
theorem trodAll_below (hl:laidOutB P=true) {W W':World} (hb:Below W.heap.size W W') :
  ∀ {ts:List TypeId} {vs:List Value} {ds:List (DataW H)} {ps:List MemPlace},(ts.all fun t=>P.readableRec t && decide (t<P.types.size))=true→DataW.TrodAll enc P W 0 (fun _=>true) true ts vs ds ps→(∀ x∈ps,x.block<W.heap.size) →
   DataW.TrodAll enc P W' 0 (fun b=>decide (b<W.heap.size)) true ts vs ds ps
 | [],vs,ds,ps,_,h,_=>by
  obtain ⟨rfl,rfl,rfl⟩:=trodAll_nil h
  exact trodAll_mk0
 | t::ts,vs,ds,ps,ht,h,hlt=>by
  obtain ⟨v,vs',d,ds',p,q,rfl,rfl,rfl,h1,h2⟩:=trodAll_cons h
  simp only [List.all_cons,Bool.and_eq_true,decide_eq_true_eq] at ht
  exact trodAll_cons_mk (Below.trod hl ht.1.1 ht.1.2 h1 hb (fun x hx=>hlt x (by simp [hx]))) (trodAll_below hl hb ht.2 h2 (fun x hx=>hlt x (by simp [hx])))
end
theorem law_done {H:Type} {enc:TypeId × Value→H} {fn:Func} {s:ChangeSpec} {W W':World} {args:Array Value} {ds gs:List (DataW H)} {before:List MemPlace}
  (hW:DataW.Whole enc Tryz.prog fn.params.toList s.vars false W args.toList ds gs before) (hrt:fn.resultTypes=#[4]) (hv:s.vars=[])
  (hres:(s.fn H (ds++gs)).results=[.lit (.bool true)]) (hargs:(s.fn H (ds++gs)).args=ds) (hvars:(s.fn H (ds++gs)).vars=[])
  (hty:(fn.params.toList.all fun t=>Tryz.prog.readableRec t && decide (t<Tryz.prog.types.size))=true) (hb:Below W.heap.size W W') :
  s.post enc Tryz.prog fn false true false false W args (.bool true) W':=by
 have hW':=hW
 obtain ⟨p,q,hA,hV,rfl,_,_⟩:=hW
 rw [hv] at hV
 obtain ⟨rfl,rfl⟩:=trodVars_none hV
 have hlt:∀ x∈p,x.block<W.heap.size:=fun x hx=>hW'.lt x (by simp [hx])
 refine ⟨ds,[],p++[],[],p,[],hW',?_,?_,?_,?_,fun h=>by cases h⟩
 ·rw [hres,hrt]; exact trodAll_mk1 (shut_bool Tryz.underlying4 true)
 ·rw [hargs]; exact trodAll_below laidOut hb hty hA hlt
 ·rw [hvars,hv]; exact rfl
 ·exact hb.frame _
end
section
open Go.ChangeShapes Go.WideShapes Go.ChangeAt Go.RowKit Go.Deep Kp
def cells1:DataW Unit→List Value
 | .lit l=>[l.value]
 | _=>[]
def cells2:DataW Unit→List Value
 | .agg l=>l.flatMap cells1
 | d=>cells1 d
def cells3:DataW Unit→List Value
 | .agg l=>l.flatMap cells2
 | d=>cells2 d
def putVar (h:Array Obj) (g:Nat) (cs:List Value):Array Obj:=h.modify g fun
 | .cells _ t frozen=>.cells cs.toArray t frozen
 | o=>o
noncomputable def laidWorld (os:Os):World :=
 let N:=(World.settled Tryz.prog os).heap.size
 let w0:=World.holding Tryz.prog os ⟨#[.cells #[.string ⟨#[118,97,108,117,101,32,111,117,116,32,111,102,32,114,97,110,103,101]⟩] 263,.cells #[.string ⟨#[105,110,118,97,108,105,100,32,115,121,110,116,97,120]⟩] 263],#[],[]⟩
 let h1:=putVar w0.heap 7 (cells3 Rows.laid_math_bits_deBruijn32tab)
 let h2:=putVar h1 8 (cells3 Rows.laid_math_bits_deBruijn64tab)
 let h3:=putVar h2 3 (cells3 Rows.laid_internal_strconv_uint64pow10)
 let h4:=putVar h3 5 (cells3 Rows.laid_unicode_utf8_acceptRanges)
 let h5:=putVar h4 2 [.iface 261 (.pointer (some ⟨N,0,none⟩))]
 let h6:=putVar h5 1 [.iface 261 (.pointer (some ⟨N+1,0,none⟩))]
 let h7:=putVar h6 6 (cells3 Rows.laid_kingpost_root_primes)
 let h7:=putVar h7 9 (cells3 Rows.laid_kingpost_surd_signPlaces)
 let h8:=putVar h7 4 (cells3 Rows.laid_unicode_utf8_first)
 { w0 with heap:=h8 }
def rowL : List (String × DataW Unit) := [("math/bits.deBruijn32tab", Rows.laid_math_bits_deBruijn32tab), ("math/bits.deBruijn64tab", Rows.laid_math_bits_deBruijn64tab), ("internal/strconv.uint64pow10", Rows.laid_internal_strconv_uint64pow10), ("unicode/utf8.acceptRanges", Rows.laid_unicode_utf8_acceptRanges), ("strconv.ErrRange", Rows.laid_strconv_ErrRange), ("strconv.ErrSyntax", Rows.laid_strconv_ErrSyntax), ("kingpost/root.primes", Rows.laid_kingpost_root_primes),
 ("kingpost/surd.signPlaces", Rows.laid_kingpost_surd_signPlaces),
 ("unicode/utf8.first", Rows.laid_unicode_utf8_first)]
theorem listed:Listed rowL where
 plain:=by kernel_rfl
 pow10:=by simp [rowL]
 errSyntax:=by simp [rowL]
 errRange:=by simp [rowL]
 primes:=by simp [rowL]
 places:=by simp [rowL]
theorem laid_met (os:Os) (args:Array Value):laidMet Tryz.prog rowL ((laidWorld os).forCall (fun _ _=>0) ⟨#[],args,[]⟩).memory :=
 laidMet_of_run' 10 (by kernel_rfl) (by kernel_rfl)
end
section
open Go.ChangeShapes Go.WideShapes Go.ChangeAt Go.RowKit Go.Deep Kp
theorem cCut:Tryz.prog.cellsOf 42=4:=by kernel_rfl
theorem cIntC:Tryz.prog.cellsOf 3=1:=by kernel_rfl
theorem cInts:Tryz.prog.cellsOf 40=1:=by kernel_rfl
theorem cutFields:Tryz.prog.underlying 42=some (.struct (Tryz.prog.fieldsOf 42)):=by kernel_rfl
theorem cutOff:(Tryz.prog.fieldsOf 42).map (fun f=>(f.type,f.offset))=#[(3,0),(3,1),(3,2),(40,3)]:=by kernel_rfl
theorem cutBytes:Tryz.prog.bytesOf 42=48:=by kernel_rfl
theorem field_cut (i:Nat) (t o:Nat) (hi:(#[(3,0),(3,1),(3,2),(40,3)]:Array (TypeId × Nat))[i]?=some (t,o)):∃ f,(Tryz.prog.fieldsOf 42)[i]?=some f∧f.type=t∧f.offset=o:=by
 rw [← cutOff,Array.getElem?_map] at hi
 obtain ⟨f,h1,h2⟩:=Option.map_eq_some_iff.1 hi
 simp only [Prod.mk.injEq] at h2
 exact ⟨f,h1,h2.1,h2.2⟩
theorem pick_any {α:Type} {C:Nat→α→Prop}:∀ (n:Nat),(∀ i,i<n→∃ s,C i s)→∃ l:List α,l.length=n∧∀ i (h:i<l.length),C i l[i]
 | 0,_=>⟨[],rfl,fun _ hi=>absurd hi (Nat.not_lt_zero _)⟩
 | n+1,h=>by
  obtain ⟨l,hl,hc⟩:=pick_any n (fun i hi=>h i (by omega))
  obtain ⟨s,hs⟩:=h n (by omega)
  refine ⟨l++[s],by simp [hl],fun i hi=>?_⟩
  by_cases e:i<l.length
  ·rw [List.getElem_append_left e]; exact hc i e
  ·have e2:i=n:=by simp at hi; omega
   subst e2
   rw [List.getElem_append_right (by omega)]
   simpa using hs
theorem list4 {α:Type} {cs:List α} (h:cs.length=4):∃ c0 c1 c2 c3,cs=[c0,c1,c2,c3]:=by
 match cs,h with
 | [c0,c1,c2,c3],_=>exact ⟨c0,c1,c2,c3,rfl⟩
theorem some_of {α:Type} {l:List α} {n i:Nat} (h:l.length=n) (hi:i<n):∃ y,l[i]?=some y:=⟨l[i]'(by omega),List.getElem?_eq_getElem (by omega)⟩
section
variable {H:Type} {enc:TypeId × Value→H} {W:World} {b0:Nat} {sp:Nat→Bool} {held:Bool}
theorem trod_i64 {c:Value} {fuel:Nat} {x:DataW H × List MemPlace} (h:DataW.trod enc Tryz.prog W 0 sp held fuel 3 [c]=some x):∃ n:Int,c=.int .i64 n:=by
 obtain ⟨n,e,-,-⟩:=DataW.trod_int Tryz.underlying3 h
 simp only [List.cons.injEq,and_true] at e
 exact ⟨n,e⟩
theorem trod_ints {c:Value} {fuel:Nat} {x:DataW H × List MemPlace} (h:DataW.trod enc Tryz.prog W 0 sp held fuel 40 [c]=some x):∃ l:List Int,NumSl W c l:=by
 rcases open_slice1 Tryz.underlying40 cIntC h with ⟨hcs,_⟩ | ⟨a,len,cap,m,n,V,D,Pl,hcs,_,hl,hm,hmm,hx,hi⟩
 ·simp only [List.cons.injEq,and_true] at hcs
  subst hcs
  exact ⟨[],RowSl.nil W none 0⟩
 ·simp only [List.cons.injEq,and_true] at hcs
  subst hcs
  have hlm:len≤m:=by rw [hmm]; split <;> omega
  obtain ⟨l,hll,hc⟩:=pick_any (C:=fun i (z:Int)=>W.cell? (a.add i)=some (.int .i64 z)) len (fun i hi'=>by
   obtain ⟨h1,h2⟩:=hi i (by omega)
   obtain ⟨z,e⟩:=trod_i64 h2
   exact ⟨z,by rw [h1,e]⟩)
  refine ⟨l,some a,cap,by rw [hll],fun i hil=>?_⟩
  obtain ⟨b,o,spot⟩:=a
  have z0:=hc 0 (by omega)
  have hs:spot=none:=by simpa [Addr.add] using World.cell?_spot z0
  subst hs
  have h1:=hc i hil
  rw [Addr.add_lit] at h1
  refine ⟨b,o,rfl,World.block_lt_of_cell? W _ h1,fun j u hu=>?_⟩
  obtain rfl:j=0:=by
   have:=(List.getElem?_eq_some_iff.1 hu).1
   simp at this; exact this
  simp at hu
  subst hu
  rw [Nat.mul_one,Nat.add_zero]
  exact h1
set_option maxRecDepth 100000 in
theorem trod_cut {c0 c1 c2 c3:Value} {fuel:Nat} {x:DataW H × List MemPlace} (h:DataW.trod enc Tryz.prog W 0 sp held fuel 42 [c0,c1,c2,c3]=some x) :
  ∃ (p:Ct) (u:Value),NumSl W u p.ms∧[c0,c1,c2,c3]=ctC p u:=by
 obtain ⟨ys,n,-,-,-,hyl,hat⟩:=DataW.trod_struct cutFields h
 have hs:ys.length=4:=by
  have:=congrArg Array.size cutOff
  simp only [Array.size_map] at this
  rw [hyl,this]; rfl
 obtain ⟨f0,g0,t0,o0⟩:=field_cut 0 3 0 rfl
 obtain ⟨f1,g1,t1,o1⟩:=field_cut 1 3 1 rfl
 obtain ⟨f2,g2,t2,o2⟩:=field_cut 2 3 2 rfl
 obtain ⟨f3,g3,t3,o3⟩:=field_cut 3 40 3 rfl
 have h0:=hat 0 f0 g0
 have h1:=hat 1 f1 g1
 have h2:=hat 2 f2 g2
 have h3:=hat 3 f3 g3
 rw [t0,o0,cIntC] at h0
 rw [t1,o1,cIntC] at h1
 rw [t2,o2,cIntC] at h2
 rw [t3,o3,cInts] at h3
 obtain ⟨y0,e0⟩:=some_of hs (i:=0) (by decide)
 obtain ⟨y1,e1⟩:=some_of hs (i:=1) (by decide)
 obtain ⟨y2,e2⟩:=some_of hs (i:=2) (by decide)
 obtain ⟨y3,e3⟩:=some_of hs (i:=3) (by decide)
 rw [e0] at h0
 rw [e1] at h1
 rw [e2] at h2
 rw [e3] at h3
 obtain ⟨a,rfl⟩:=trod_i64 (show DataW.trod enc Tryz.prog W 0 sp held n 3 [c0]=some y0 from h0)
 obtain ⟨b,rfl⟩:=trod_i64 (show DataW.trod enc Tryz.prog W 0 sp held n 3 [c1]=some y1 from h1)
 obtain ⟨c,rfl⟩:=trod_i64 (show DataW.trod enc Tryz.prog W 0 sp held n 3 [c2]=some y2 from h2)
 obtain ⟨l,hl⟩:=trod_ints (show DataW.trod enc Tryz.prog W 0 sp held n 40 [c3]=some y3 from h3)
 exact ⟨⟨a,b,c,l⟩,c3,hl,rfl⟩
set_option maxRecDepth 100000 in
theorem open_cuts {v:Value} {d:DataW H} {p:List MemPlace}
  (hok:Value.okWide Tryz.prog W .any b0 22 v) (h:DataW.Trod enc Tryz.prog W 0 sp held 22 v d p)
  (hsz:∀ elems spare,d=.slice elems spare→(elems.length+spare.length)*Tryz.prog.bytesOf 42≤reachBytes):∃ l:List Ct,CtSl W v l∧l.length<4611686018427387904:=by
 obtain ⟨a0,len0,cap0,rfl⟩:=okWide_slice Tryz.underlying22 hok
 obtain ⟨fuel,hf⟩:=h
 rcases open_slice Tryz.underlying22 hf with ⟨hcs,_⟩ | ⟨a,len,cap,m,n,D,Pl,hcs,_,hl,hm,hmm,hx,hi⟩
 ·simp [Value.cells] at hcs
  obtain ⟨rfl,rfl,rfl⟩:=hcs
  exact ⟨[],⟨none,0,rfl,fun _ hi=>absurd hi (Nat.not_lt_zero _)⟩,by simp⟩
 ·simp [Value.cells] at hcs
  obtain ⟨rfl,rfl,rfl⟩:=hcs
  have hlm:len0≤m:=by rw [hmm]; split <;> omega
  have key:∀ i,i<len0→∃ q:Ct,∃ u,NumSl W u q.ms∧∀ j z,(ctC q u)[j]?=some z→W.cell? ((a.add (i*4)).add j)=some z:=fun i hil=>by
   obtain ⟨cs',hc,ht⟩:=hi i (by omega)
   rw [cCut] at hc
   obtain ⟨_,hcl,hat⟩:=World.cells?_some hc
   obtain ⟨c0,c1,c2,c3,rfl⟩:=list4 hcl
   obtain ⟨q,u,hu,he⟩:=trod_cut ht
   refine ⟨q,u,hu,fun j z hz=>?_⟩
   rw [← he] at hz
   have hj:j<4:=(List.getElem?_eq_some_iff.1 hz).1
   rw [hat j hj]; exact hz
  obtain ⟨l,hll,hc⟩:=pick_any len0 key
  refine ⟨l,⟨some a,cap0,by rw [hll],fun i hil=>?_⟩,by
   simp only [Prod.mk.injEq] at hx
   have h3:=hsz _ _ hx.1
   rw [cutBytes] at h3
   simp only [List.length_map,List.length_range,reachBytes] at h3
   omega⟩
  obtain ⟨b,o,spot⟩:=a
  obtain ⟨_,_,z1⟩:=hc 0 (by omega)
  have z0:=z1 0 _ rfl
  have hs:spot=none:=by simpa [Addr.add] using World.cell?_spot z0
  subst hs
  obtain ⟨u,hu,h2⟩:=hc i hil
  have hcc:∀ j z,(ctC l[i] u)[j]?=some z→W.cell? ⟨b,o+i*4+j,none⟩=some z:=fun j z hz=>by
   have h4:=h2 j z hz
   rwa [Addr.add_lit,Addr.add_lit] at h4
  rw [ctAt_get hil]
  exact ⟨b,o,u,rfl,World.block_lt_of_cell? W _ (hcc 0 _ rfl),hu,hcc⟩
end
end
end Go.Proofs.YtohlpeicpoaanaaGreatDoor
