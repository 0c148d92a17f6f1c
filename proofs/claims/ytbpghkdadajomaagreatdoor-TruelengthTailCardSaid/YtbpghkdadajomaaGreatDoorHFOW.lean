/-
  Frm Opn Wit, one behind the other.
-/
import Derived.Test.YtbpghkdadajomaaGreatDoorCards
import Derived.Test.YtbpghkdadajomaaGreatDoorTie
import Derived.Test.YtbpghkdadajomaaGreatDoorH00
import Derived.ProofKit
import Derived.OpenShut
import Derived.SizedLaws
import Derived.Deep.DeepHandedRow
import Derived.Deep.DeepWitnessRowRef
import Derived.Deep.Slices
import Derived.Deep.Fields
import Derived.ChangeSame
import Derived.Carry
import Derived.Shelf.Vars
set_option maxRecDepth 100000
namespace Go.Proofs.YtbpghkdadajomaaGreatDoor
section
open Go.ChangeShapes Go.WideShapes Go.ChangeAt Go.RowKit Go.Deep Kp
theorem own:ownKnob Tryz.prog.godebug=none:=by kernel_rfl
theorem laidOut:laidOutB Tryz.prog=true:=by kernel_rfl
theorem zbL{P:Program}{w:World}{n:String}{d:DataW Unit}:∀ {l:List (String × DataW Unit)} {ps:List MemPlace},DataW.LaidVars P w l ps→(n,d)∈l →
  ∃ g t cs fuel p,P.globalNamed n=some g∧(P.globals[g]?).map (·.type)=some t∧w.var? P n=some cs∧DataW.trod (fun _=>()) P w 0 (fun _=>true) false fuel t cs.toList=some (d,p)
 | [],_,_,hm=>by cases hm
 | (m,e)::r,ps,h,hm=>by
  obtain⟨g,t,cs,fuel,p,q,e1,e2,e3,e4,hr,rfl⟩:=h
  rcases List.mem_cons.1 hm with hm | hm
  ·cases hm;exact⟨g,t,cs,fuel,p,e1,e2,e3,e4⟩
  ·exact zbL hr hm
theorem zk3{H:Type}{enc:TypeId × Value→H}{P:Program}{w:World}{base:Nat}{sp:Nat→Bool}{held:Bool}{fuel:Nat}{t e:TypeId}{n:Nat}{cs:List Value}{ls:List Str}{p:List MemPlace}
  (ht:P.underlying t=some (.array n e))(he:P.underlying e=some .string)(hce:P.cellsOf e=1)(hct:P.cellsOf t=n)
  (h:DataW.trod enc P w base sp held fuel t cs=some (.agg (ls.map fun s=>.lit (.string s)),p)):cs=ls.map fun s=>Value.string ⟨s.toArray⟩:=by
 cases fuel with
 | zero=>simp[DataW.trod]at h
 | succ fuel =>
  simp only[DataW.trod,ht,hce,hct,Nat.mul_one]at h
  split at h
  ·rename_i hl
   obtain⟨xs,hm,hx⟩:=Option.map_eq_some_iff.1 h
   have hxs:xs.map (·.1)=ls.map fun s=>(DataW.lit (.string s):DataW H):=by
    have:=congrArg Prod.fst hx
    simpa using this
   have hxl:xs.length=n:=by simpa using Lib.mapM_length hm
   have hzl:ls.length=n:=by
    have:=congrArg List.length hxs
    simp at this
    omega
   apply List.ext_getElem?
   intro i
   by_cases hi:i<n
   ·obtain⟨b,hb,hf⟩:=Lib.mapM_at hm i i (by simp[hi])
    obtain⟨z,hc,rfl,_⟩:=DataW.trod_string he hf
    have h1:cs[i]? = some (.string z):=by
     have:=congrArg (·[0]?) hc
     simpa[List.getElem?_take,List.getElem?_drop]using this
    have h2:(xs.map (·.1))[i]? = some (DataW.lit (.string z.data.toList):DataW H):=by simp[hb]
    rw[hxs]at h2
    simp only[List.getElem?_map,Option.map_eq_some_iff,DataW.lit.injEq,Lit.string.injEq]at h2
    obtain⟨z',hz',he'⟩:=h2
    have e3:z=⟨z'.toArray⟩:=by rw[he']
    simp[h1,hz',e3]
   ·rw[List.getElem?_eq_none (by omega),List.getElem?_eq_none (by simp;omega)]
  ·cases h
theorem zoV{P:Program}{w:World}{name:String}{g:Nat}{l:List Str}{cs:Array Value}(hg:P.globalNamed name=some g)(hv:w.var? P name=some cs)(hc:cs.toList=l.map fun s=>Value.string ⟨s.toArray⟩):zgW w g l:=by
 unfold World.var? at hv
 rw[hg]at hv
 simp only[Option.bind_some]at hv
 cases hh:w.heap[g]? with
 | none=>rw[hh]at hv;cases hv
 | some o =>
  rw[hh]at hv
  cases o <;> simp at hv
  rename_i c t f
  subst hv
  exact⟨t,f,by rw[hh,← hc]⟩
theorem zlJ{P:Program}{w:World}{g:Nat}(h:w.ShapedOpen P)(hg:g<P.globals.size)(h0:(((begin P (fun _ _=>0) default).world.heap[g]?).bind Obj.row?).isSome=true):g<w.heap.size:=by
 obtain⟨⟨zero,t⟩,e⟩:=Option.isSome_iff_exists.1 h0
 obtain⟨cs,hh,_⟩:=h.1 g zero t hg e
 exact(Array.getElem?_eq_some_iff.1 hh).1
theorem zpO : Tryz.prog.globalNamed "kingpost/root.primes" = some 2 := by kernel_rfl
theorem zso:(Tryz.prog.globals[3]?).map (·.type)=some 339:=by kernel_rfl
theorem zrC:(Tryz.prog.globals[2]?).map (·.type)=some 328:=by kernel_rfl
theorem znJ:(Tryz.prog.globals[5]?).map (·.type)=some 229:=by kernel_rfl
theorem zoQ:(Tryz.prog.globals[6]?).map (·.type)=some 229:=by kernel_rfl
theorem zsG:Tryz.prog.cellsOf 339=20:=by kernel_rfl
theorem zti:Tryz.prog.cellsOf 291=1:=by kernel_rfl
theorem zr4:Tryz.prog.cellsOf 328=25:=by kernel_rfl
theorem zr3:Tryz.prog.cellsOf 9=1:=by kernel_rfl
theorem zpP : Tryz.prog.globalNamed "kingpost/surd.signPlaces" = some 0 := by kernel_rfl
theorem zrD:(Tryz.prog.globals[0]?).map (·.type)=some 172:=by kernel_rfl
theorem zr5:Tryz.prog.cellsOf 172=3:=by kernel_rfl
theorem ztj:Tryz.prog.cellsOf 3=1:=by kernel_rfl
theorem zpG{P:Program}{w:World}{name:String}{g:Nat}{l:List Int}{cs:Array Value}(hg:P.globalNamed name=some g)(hv:w.var? P name=some cs)(hc:cs.toList=l.map fun z=>Value.int .i64 z):∃ t f,w.heap[g]? = some (.cells (l.map fun z=>Value.int .i64 z).toArray t f):=by
 unfold World.var? at hv
 rw[hg]at hv
 simp only[Option.bind_some]at hv
 cases hh:w.heap[g]? with
 | none=>rw[hh]at hv;cases hv
 | some o =>
  rw[hh]at hv
  cases o <;> simp at hv
  rename_i c t f
  subst hv
  exact⟨t,f,by rw[← hc]⟩
theorem zsA : Tryz.prog.globalNamed "kingpost/front.directions" = some 1 := by kernel_rfl
theorem zsU:(Tryz.prog.globals[1]?).map (·.type)=some 197:=by kernel_rfl
theorem zsZ:Tryz.prog.cellsOf 197=8:=by kernel_rfl
theorem zta:Tryz.prog.cellsOf 196=2:=by kernel_rfl
theorem zgS{W:World}{fuel:Nat}{cs:List Value}{b:Bool}{z:Int}{y:DataW Unit × List MemPlace}(h:DataW.trod (fun _=>()) Tryz.prog W 0 (fun _=>true) false fuel 196 cs=some y)(hy:y.1=.agg [.lit (.bool b),.lit (.int .i64 z)]):cs=[.bool b,.int .i64 z]:=by
 obtain⟨y0,y1,n,rfl,hl,h0,h1⟩:=trod_struct2 Tryz.underlying196 h
 obtain⟨b',e0,rfl⟩:=DataW.trod_bool Tryz.underlying4 h0
 obtain⟨z',e1,rfl,_⟩:=DataW.trod_int Tryz.underlying3 h1
 rw[zta]at hl
 simp only[DataW.agg.injEq,List.cons.injEq,DataW.lit.injEq,Lit.bool.injEq,Lit.int.injEq,true_and,and_true]at hy
 obtain⟨rfl,rfl⟩:=hy
 match cs,hl with
 | [c0,c1],_ =>
  have e0':[c0]=[.bool b']:=e0
  have e1':[c1]=[.int .i64 z']:=e1
  injection e0' with e0' _
  injection e1' with e1' _
  rw[e0',e1']
theorem zk4{W:World}{fuel:Nat}{cs:List Value}{p:List MemPlace}(h:DataW.trod (fun _=>()) Tryz.prog W 0 (fun _=>true) false fuel 197 cs=some (Rows.laid_kingpost_front_directions,p)):cs=zq6:=by
 obtain⟨xs,m,_,hx,hl,hxl,hf⟩:=DataW.trod_array Tryz.underlying197 h
 rw[zsZ]at hl
 have e:(Rows.laid_kingpost_front_directions:DataW Unit)=.agg [.agg [.lit (.bool false),.lit (.int .i64 1)],.agg [.lit (.bool true),.lit (.int .i64 (-1))],.agg [.lit (.bool false),.lit (.int .i64 (-1))],.agg [.lit (.bool true),.lit (.int .i64 1)]]:=rfl
 rw[e]at hx
 match xs,hxl with
 | [y0,y1,y2,y3],_ =>
  have h0:=hf 0 (by decide)
  have h1:=hf 1 (by decide)
  have h2:=hf 2 (by decide)
  have h3:=hf 3 (by decide)
  rw[zta]at h0 h1 h2 h3
  simp only[List.map_cons,List.map_nil,Prod.mk.injEq,DataW.agg.injEq,List.cons.injEq,and_true]at hx
  obtain⟨⟨x0,x1,x2,x3⟩,_⟩:=hx
  have g0:=zgS h0 x0.symm
  have g1:=zgS h1 x1.symm
  have g2:=zgS h2 x2.symm
  have g3:=zgS h3 x3.symm
  match cs,hl with
  | [c0,c1,c2,c3,c4,c5,c6,c7],_ =>
   have g0':[c0,c1]=_:=g0
   have g1':[c2,c3]=_:=g1
   have g2':[c4,c5]=_:=g2
   have g3':[c6,c7]=_:=g3
   simp only[List.cons.injEq,and_true]at g0' g1' g2' g3'
   rw[g0'.1,g0'.2,g1'.1,g1'.2,g2'.1,g2'.2,g3'.1,g3'.2]
   rfl
theorem zpY {W : World} {cs : Array Value} (hv : W.var? Tryz.prog "kingpost/front.directions" = some cs) (hc : cs.toList = zq6) : zrB W := by
 unfold World.var? at hv
 rw[zsA]at hv
 simp only[Option.bind_some]at hv
 cases hh:W.heap[1]? with
 | none=>rw[hh]at hv;cases hv
 | some o =>
  rw[hh]at hv
  cases o <;> simp at hv
  rename_i c t f
  subst hv
  exact⟨t,f,by rw[hh,← hc]⟩
theorem zni{W:World}{name nm:String}{cs:Array Value}{fuel:Nat}{d:DataW Unit}{p:List MemPlace}(hv:W.var? Tryz.prog name=some cs)(hd:DataW.trod (fun _=>()) Tryz.prog W 0 (fun _=>true) false fuel 229 cs.toList=some (.iface nm d,p)) :
  ∃ tp q,W.var? Tryz.prog name=some #[.iface tp q]:=by
 obtain⟨_,u,v,e,_⟩:=iface_of_trod Tryz.underlying229 hd
 exact⟨u,v,by rw[hv];congr 1;exact Array.toList_inj.1 e⟩
structure Listed (L:List (String × DataW Unit)):Prop where
 plain:(L.all fun x=>x.2.handleName?.isNone)=true
 pow10 : ("internal/strconv.uint64pow10", Rows.laid_internal_strconv_uint64pow10) ∈ L
 errSyntax : ("strconv.ErrSyntax", Rows.laid_strconv_ErrSyntax) ∈ L
 errRange : ("strconv.ErrRange", Rows.laid_strconv_ErrRange) ∈ L
 primes : ("kingpost/root.primes", Rows.laid_kingpost_root_primes) ∈ L
 places : ("kingpost/surd.signPlaces", Rows.laid_kingpost_surd_signPlaces) ∈ L
 dirs : ("kingpost/front.directions", Rows.laid_kingpost_front_directions) ∈ L
theorem Env.of{W : World}{L : List (String × DataW Unit)}(hsh : W.ShapedOpen Tryz.prog)(hl : laidMetH Tryz.prog L W)(hL : Listed L) : Env W := by
  have hl := (laidMetH_iff.1 hl).1
  rw[List.filter_eq_self.2 (fun x hx => List.all_eq_true.1 hL.plain x hx)]at hl
  obtain⟨ps, hv, _⟩ := hl
  obtain⟨g1, t1, cs1, f1, p1, a1, b1, c1, d1⟩ := zbL hv hL.pow10
  obtain⟨g2, t2, cs2, f2, p2, a2, b2, c2, d2⟩ := zbL hv hL.errSyntax
  obtain⟨g3, t3, cs3, f3, p3, a3, b3, c3, d3⟩ := zbL hv hL.errRange
  obtain⟨g4, t4, cs4, f4, p4, a4, b4, c4, d4⟩ := zbL hv hL.primes
  obtain rfl := Option.some.inj (a1.symm.trans zrt)
  obtain rfl := Option.some.inj (a2.symm.trans zjS)
  obtain rfl := Option.some.inj (a3.symm.trans zlY)
  obtain rfl := Option.some.inj (a4.symm.trans zpO)
  obtain rfl := Option.some.inj (b1.symm.trans zso)
  obtain rfl := Option.some.inj (b2.symm.trans znJ)
  obtain rfl := Option.some.inj (b3.symm.trans zoQ)
  obtain rfl := Option.some.inj (b4.symm.trans zrC)
  obtain⟨g6, t6, cs6, f6, p6, a6, b6, c6, d6⟩ := zbL hv hL.places
  obtain rfl := Option.some.inj (a6.symm.trans zpP)
  obtain rfl := Option.some.inj (b6.symm.trans zrD)
  have e6 : (Rows.laid_kingpost_surd_signPlaces : DataW Unit) = Lib.tabData .i64 [4, 16, 64] := rfl
  rw[e6]at d6
  obtain⟨g7, t7, cs7, f7, p7, a7, b7, c7, d7⟩ := zbL hv hL.dirs
  obtain rfl := Option.some.inj (a7.symm.trans zsA)
  obtain rfl := Option.some.inj (b7.symm.trans zsU)
  have e1 : (Rows.laid_internal_strconv_uint64pow10 : DataW Unit) = Lib.tabData .u64 Lib.pow10Tab := rfl
  have e4 : (Rows.laid_kingpost_root_primes : DataW Unit) = .agg (zde.map fun s => .lit (.string s)) := rfl
  rw[e1]at d1
  rw[e4]at d4
  exact
  { size := Nat.succ_le_of_lt (zlJ (g := ng - 1) hsh (of_decide_eq_true (by kernel_rfl)) (by kernel_rfl))
    maxlen := cell_of_shapedOpen_int (zero := #[.int .i64 0]) (t := 3) hsh (of_decide_eq_true (by kernel_rfl)) (by kernel_rfl) rfl (by kernel_rfl) (by kernel_rfl) Tryz.underlying3
    pow10 := by unfold Lib.TabIs;rw[c1, ← Lib.cells_of_tab Tryz.underlying339 Tryz.underlying291 zti zsG d1]
    errSyntax := zni c2 d2
    errRange := zni c3 d3
    primes := zoV zpO c4 (zk3 Tryz.underlying328 Tryz.underlying9 zr3 zr4 d4)
    places := zpG (l := [4, 16, 64]) zpP c6 (Lib.cells_of_tab Tryz.underlying172 Tryz.underlying3 ztj zr5 d6)
    dirs := zpY c7 (zk4 d7)
 }
end
section
open Go.ChangeShapes Go.WideShapes Go.ChangeAt Go.RowKit Go.Deep Kp
section
variable {H:Type} {enc:TypeId × Value→H} {P:Program} {w:World} {base:Nat} {spare:Nat→Bool} {held:Bool}
theorem zgc(hl:laidOutB P=true){W W':World}(hb:Below W.heap.size W W') :
  ∀ {ts:List TypeId} {vs:List Value} {ds:List (DataW H)} {ps:List MemPlace},(ts.all fun t=>P.readableRec t && decide (t<P.types.size))=true→DataW.TrodAll enc P W 0 (fun _=>true) true ts vs ds ps→(∀ x∈ps,x.block<W.heap.size) →
   DataW.TrodAll enc P W' 0 (fun b=>decide (b<W.heap.size)) true ts vs ds ps
 | [],vs,ds,ps,_,h,_=>by
  obtain⟨rfl,rfl,rfl⟩:=trodAll_nil h
  exact trodAll_mk0
 | t::ts,vs,ds,ps,ht,h,hlt=>by
  obtain⟨v,vs',d,ds',p,q,rfl,rfl,rfl,h1,h2⟩:=trodAll_cons h
  simp only[List.all_cons,Bool.and_eq_true,decide_eq_true_eq]at ht
  exact trodAll_cons_mk (Below.trod hl ht.1.1 ht.1.2 h1 hb (fun x hx=>hlt x (by simp[hx]))) (zgc hl hb ht.2 h2 (fun x hx=>hlt x (by simp[hx])))
end
theorem zqO{H:Type}{enc:TypeId × Value→H}{fn:Func}{s:ChangeSpec}{W W':World}{args:Array Value}{ds gs:List (DataW H)}{before:List MemPlace}
  (hW:DataW.Whole enc Tryz.prog fn.params.toList s.vars false W args.toList ds gs before)(hrt:fn.resultTypes=#[4])(hv:s.vars=[])
  (hres:(s.fn H (ds++gs)).results=[.lit (.bool true)])(hargs:(s.fn H (ds++gs)).args=ds)(hvars:(s.fn H (ds++gs)).vars=[])
  (hty:(fn.params.toList.all fun t=>Tryz.prog.readableRec t && decide (t<Tryz.prog.types.size))=true)(hb:Below W.heap.size W W') :
  s.post enc Tryz.prog fn false true false false W args (.bool true) W':=by
 have hW':=hW
 obtain⟨p,q,hA,hV,rfl,_,_⟩:=hW
 rw[hv]at hV
 obtain⟨rfl,rfl⟩:=trodVars_none hV
 have hlt:∀ x∈p,x.block<W.heap.size:=fun x hx=>hW'.lt x (by simp[hx])
 refine⟨ds,[],p++[],[],p,[],hW',?_,?_,?_,?_,fun h=>by cases h⟩
 ·rw[hres,hrt];exact trodAll_mk1 (shut_bool Tryz.underlying4 true)
 ·rw[hargs];exact zgc laidOut hb hty hA hlt
 ·rw[hvars,hv];exact rfl
 ·exact hb.frame _
end
section
open Go.ChangeShapes Go.WideShapes Go.ChangeAt Go.RowKit Go.Deep Kp
def zrw:DataW Unit→List Value
 | .lit l=>[l.value]
 | _=>[]
def zrv:DataW Unit→List Value
 | .agg l=>l.flatMap zrw
 | d=>zrw d
def cells3:DataW Unit→List Value
 | .agg l=>l.flatMap zrv
 | d=>zrv d
def zfC(h:Array Obj)(g:Nat)(cs:List Value):Array Obj:=h.modify g fun
 | .cells _ t frozen=>.cells cs.toArray t frozen
 | o=>o
noncomputable def ziP (os:Os):World :=
 let N:=(World.settled Tryz.prog os).heap.size
 let w0:=World.holding Tryz.prog os ⟨#[.cells #[.string ⟨#[118,97,108,117,101,32,111,117,116,32,111,102,32,114,97,110,103,101]⟩] 384,.cells #[.string ⟨#[105,110,118,97,108,105,100,32,115,121,110,116,97,120]⟩] 384],#[],[]⟩
 let h1:=zfC w0.heap 7 (cells3 Rows.laid_math_bits_deBruijn32tab)
 let h2:=zfC h1 8 (cells3 Rows.laid_math_bits_deBruijn64tab)
 let h3:=zfC h2 3 (cells3 Rows.laid_internal_strconv_uint64pow10)
 let h4:=zfC h3 10 (cells3 Rows.laid_unicode_utf8_acceptRanges)
 let h5:=zfC h4 6 [.iface 382 (.pointer (some ⟨N,0,none⟩))]
 let h6:=zfC h5 5 [.iface 382 (.pointer (some ⟨N+1,0,none⟩))]
 let h7:=zfC h6 2 (cells3 Rows.laid_kingpost_root_primes)
 let h7:=zfC h7 0 (cells3 Rows.laid_kingpost_surd_signPlaces)
 let h7:=zfC h7 1 (cells3 Rows.laid_kingpost_front_directions)
 let h8:=zfC h7 9 (cells3 Rows.laid_unicode_utf8_first)
 { w0 with heap:=h8 }
def zrl : List (String × DataW Unit) := [("math/bits.deBruijn32tab", Rows.laid_math_bits_deBruijn32tab), ("math/bits.deBruijn64tab", Rows.laid_math_bits_deBruijn64tab), ("internal/strconv.uint64pow10", Rows.laid_internal_strconv_uint64pow10), ("unicode/utf8.acceptRanges", Rows.laid_unicode_utf8_acceptRanges), ("strconv.ErrRange", Rows.laid_strconv_ErrRange), ("strconv.ErrSyntax", Rows.laid_strconv_ErrSyntax),
 ("kingpost/front.directions", Rows.laid_kingpost_front_directions),
 ("kingpost/root.primes", Rows.laid_kingpost_root_primes),
 ("kingpost/surd.signPlaces", Rows.laid_kingpost_surd_signPlaces),
 ("unicode/utf8.first", Rows.laid_unicode_utf8_first)]
theorem listed:Listed zrl where
 plain:=by kernel_rfl
 pow10:=by simp[zrl]
 errSyntax:=by simp[zrl]
 errRange:=by simp[zrl]
 primes:=by simp[zrl]
 places:=by simp[zrl]
 dirs:=by simp[zrl]
theorem zqP(os:Os)(args:Array Value):laidMet Tryz.prog zrl ((ziP os).forCall (fun _ _=>0) ⟨#[],args,[]⟩).memory :=
 laidMet_of_run' 10 (by kernel_rfl) (by kernel_rfl)
end
end Go.Proofs.YtbpghkdadajomaaGreatDoor
