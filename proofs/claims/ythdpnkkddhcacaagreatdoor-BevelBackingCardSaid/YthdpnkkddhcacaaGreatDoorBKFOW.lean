/-
  Frm Opn Wit, one behind the other.
-/
import Derived.Test.YthdpnkkddhcacaaGreatDoorCards
import Derived.Test.YthdpnkkddhcacaaGreatDoorTie
import Derived.Test.YthdpnkkddhcacaaGreatDoorBK00
import Derived.ProofKit
import Derived.OpenShut
import Derived.SizedLaws
import Derived.Deep.DeepHandedRow
import Derived.Deep.DeepWitnessRowRef
import Derived.Deep.Slices
import Derived.Deep.Fields
import Derived.ChangeSame
import Derived.Carry
import Derived.Shelf.Vars
import Derived.LaidMore
set_option maxRecDepth 100000
namespace Go.Proofs.YthdpnkkddhcacaaGreatDoor
section
open Go.ChangeShapes Go.WideShapes Go.ChangeAt Go.RowKit Go.Deep Kp
theorem own:ownKnob Tryz.prog.godebug=none:=by kernel_rfl
theorem laidOut:laidOutB Tryz.prog=true:=by kernel_rfl
theorem zbO{P:Program}{w:World}{n:String}{d:DataW Unit}:∀ {l:List (String × DataW Unit)} {ps:List MemPlace},DataW.LaidVars P w l ps→(n,d)∈l →
  ∃ g t cs fuel p,P.globalNamed n=some g∧(P.globals[g]?).map (·.type)=some t∧w.var? P n=some cs∧DataW.trod (fun _=>()) P w 0 (fun _=>true) false fuel t cs.toList=some (d,p)
 | [],_,_,hm=>by cases hm
 | (m,e)::r,ps,h,hm=>by
  obtain⟨g,t,cs,fuel,p,q,e1,e2,e3,e4,hr,rfl⟩:=h
  rcases List.mem_cons.1 hm with hm | hm
  ·cases hm;exact⟨g,t,cs,fuel,p,e1,e2,e3,e4⟩
  ·exact zbO hr hm
theorem zlE{H:Type}{enc:TypeId × Value→H}{P:Program}{w:World}{base:Nat}{sp:Nat→Bool}{held:Bool}{fuel:Nat}{t e:TypeId}{n:Nat}{cs:List Value}{ls:List Str}{p:List MemPlace}
  (ht:P.underlying t=some (.array n e))(he:P.underlying e=some .string)(hce:P.cellsOf e=1)(hct:P.cellsOf t=n)
  (h:DataW.trod enc P w base sp held fuel t cs=some (.agg (ls.map fun s=>.lit (.string s)),p)):cs=ls.map fun s=>Value.string ⟨s.toArray⟩:=by
 cases fuel with
 | zero=>simp[DataW.trod]at h
 | succ fuel =>
  simp only[DataW.trod,ht,hce,hct,Nat.mul_one]at h
  split at h
  ·rename_i hl
   obtain⟨xs,hm,hx⟩:=Option.map_eq_some_iff.1 h
   have hxs:xs.map (·.1)=ls.map fun s=>(DataW.lit (.string s):DataW H):=by
    have:=congrArg Prod.fst hx
    simpa using this
   have hxl:xs.length=n:=by simpa using Lib.mapM_length hm
   have hzl:ls.length=n:=by
    have:=congrArg List.length hxs
    simp at this
    omega
   apply List.ext_getElem?
   intro i
   by_cases hi:i<n
   ·obtain⟨b,hb,hf⟩:=Lib.mapM_at hm i i (by simp[hi])
    obtain⟨z,hc,rfl,_⟩:=DataW.trod_string he hf
    have h1:cs[i]? = some (.string z):=by
     have:=congrArg (·[0]?) hc
     simpa[List.getElem?_take,List.getElem?_drop]using this
    have h2:(xs.map (·.1))[i]? = some (DataW.lit (.string z.data.toList):DataW H):=by simp[hb]
    rw[hxs]at h2
    simp only[List.getElem?_map,Option.map_eq_some_iff,DataW.lit.injEq,Lit.string.injEq]at h2
    obtain⟨z',hz',he'⟩:=h2
    have e3:z=⟨z'.toArray⟩:=by rw[he']
    simp[h1,hz',e3]
   ·rw[List.getElem?_eq_none (by omega),List.getElem?_eq_none (by simp;omega)]
  ·cases h
theorem zqd{P:Program}{w:World}{name:String}{g:Nat}{l:List Str}{cs:Array Value}(hg:P.globalNamed name=some g)(hv:w.var? P name=some cs)(hc:cs.toList=l.map fun s=>Value.string ⟨s.toArray⟩):zg8 w g l:=by
 unfold World.var? at hv
 rw[hg]at hv
 simp only[Option.bind_some]at hv
 cases hh:w.heap[g]? with
 | none=>rw[hh]at hv;cases hv
 | some o =>
  rw[hh]at hv
  cases o <;> simp at hv
  rename_i c t f
  subst hv
  exact⟨t,f,by rw[hh,← hc]⟩
theorem zmu{P:Program}{w:World}{g:Nat}(h:w.ShapedOpen P)(hg:g<P.globals.size)(h0:(((begin P (fun _ _=>0) default).world.heap[g]?).bind Obj.row?).isSome=true):g<w.heap.size:=by
 obtain⟨⟨zero,t⟩,e⟩:=Option.isSome_iff_exists.1 h0
 obtain⟨cs,hh,_⟩:=h.1 g zero t hg e
 exact(Array.getElem?_eq_some_iff.1 hh).1
theorem zqY : Tryz.prog.globalNamed "kingpost/root.primes" = some 4 := by kernel_rfl
theorem ztW:(Tryz.prog.globals[5]?).map (·.type)=some 345:=by kernel_rfl
theorem zsY:(Tryz.prog.globals[4]?).map (·.type)=some 331:=by kernel_rfl
theorem zo1:(Tryz.prog.globals[7]?).map (·.type)=some 282:=by kernel_rfl
theorem zqa:(Tryz.prog.globals[8]?).map (·.type)=some 282:=by kernel_rfl
theorem zup:Tryz.prog.cellsOf 345=20:=by kernel_rfl
theorem zuS:Tryz.prog.cellsOf 306=1:=by kernel_rfl
theorem ztE:Tryz.prog.cellsOf 331=25:=by kernel_rfl
theorem ztD:Tryz.prog.cellsOf 9=1:=by kernel_rfl
theorem zqZ : Tryz.prog.globalNamed "kingpost/surd.signPlaces" = some 1 := by kernel_rfl
theorem zsZ:(Tryz.prog.globals[1]?).map (·.type)=some 213:=by kernel_rfl
theorem ztF:Tryz.prog.cellsOf 213=3:=by kernel_rfl
theorem zuT:Tryz.prog.cellsOf 3=1:=by kernel_rfl
theorem zqP{P:Program}{w:World}{name:String}{g:Nat}{l:List Int}{cs:Array Value}(hg:P.globalNamed name=some g)(hv:w.var? P name=some cs)(hc:cs.toList=l.map fun z=>Value.int .i64 z):∃ t f,w.heap[g]? = some (.cells (l.map fun z=>Value.int .i64 z).toArray t f):=by
 unfold World.var? at hv
 rw[hg]at hv
 simp only[Option.bind_some]at hv
 cases hh:w.heap[g]? with
 | none=>rw[hh]at hv;cases hv
 | some o =>
  rw[hh]at hv
  cases o <;> simp at hv
  rename_i c t f
  subst hv
  exact⟨t,f,by rw[← hc]⟩
theorem zum : Tryz.prog.globalNamed "kingpost/front.directions" = some 3 := by kernel_rfl
theorem zuz:(Tryz.prog.globals[3]?).map (·.type)=some 265:=by kernel_rfl
theorem zuH:Tryz.prog.cellsOf 265=8:=by kernel_rfl
theorem zuQ:Tryz.prog.cellsOf 264=2:=by kernel_rfl
theorem zg2{W:World}{fuel:Nat}{cs:List Value}{b:Bool}{z:Int}{y:DataW Unit × List MemPlace}(h:DataW.trod (fun _=>()) Tryz.prog W 0 (fun _=>true) false fuel 264 cs=some y)(hy:y.1=.agg [.lit (.bool b),.lit (.int .i64 z)]):cs=[.bool b,.int .i64 z]:=by
 obtain⟨y0,y1,n,rfl,hl,h0,h1⟩:=trod_struct2 Tryz.underlying264 h
 obtain⟨b',e0,rfl⟩:=DataW.trod_bool Tryz.underlying4 h0
 obtain⟨z',e1,rfl,_⟩:=DataW.trod_int Tryz.underlying3 h1
 rw[zuQ]at hl
 simp only[DataW.agg.injEq,List.cons.injEq,DataW.lit.injEq,Lit.bool.injEq,Lit.int.injEq,true_and,and_true]at hy
 obtain⟨rfl,rfl⟩:=hy
 match cs,hl with
 | [c0,c1],_ =>
  have e0':[c0]=[.bool b']:=e0
  have e1':[c1]=[.int .i64 z']:=e1
  injection e0' with e0' _
  injection e1' with e1' _
  rw[e0',e1']
theorem zlF{W:World}{fuel:Nat}{cs:List Value}{p:List MemPlace}(h:DataW.trod (fun _=>()) Tryz.prog W 0 (fun _=>true) false fuel 265 cs=some (Rows.laid_kingpost_front_directions,p)):cs=zsh:=by
 obtain⟨xs,m,_,hx,hl,hxl,hf⟩:=DataW.trod_array Tryz.underlying265 h
 rw[zuH]at hl
 have e:(Rows.laid_kingpost_front_directions:DataW Unit)=.agg [.agg [.lit (.bool false),.lit (.int .i64 1)],.agg [.lit (.bool true),.lit (.int .i64 (-1))],.agg [.lit (.bool false),.lit (.int .i64 (-1))],.agg [.lit (.bool true),.lit (.int .i64 1)]]:=rfl
 rw[e]at hx
 match xs,hxl with
 | [y0,y1,y2,y3],_ =>
  have h0:=hf 0 (by decide)
  have h1:=hf 1 (by decide)
  have h2:=hf 2 (by decide)
  have h3:=hf 3 (by decide)
  rw[zuQ]at h0 h1 h2 h3
  simp only[List.map_cons,List.map_nil,Prod.mk.injEq,DataW.agg.injEq,List.cons.injEq,and_true]at hx
  obtain⟨⟨x0,x1,x2,x3⟩,_⟩:=hx
  have g0:=zg2 h0 x0.symm
  have g1:=zg2 h1 x1.symm
  have g2:=zg2 h2 x2.symm
  have g3:=zg2 h3 x3.symm
  match cs,hl with
  | [c0,c1,c2,c3,c4,c5,c6,c7],_ =>
   have g0':[c0,c1]=_:=g0
   have g1':[c2,c3]=_:=g1
   have g2':[c4,c5]=_:=g2
   have g3':[c6,c7]=_:=g3
   simp only[List.cons.injEq,and_true]at g0' g1' g2' g3'
   rw[g0'.1,g0'.2,g1'.1,g1'.2,g2'.1,g2'.2,g3'.1,g3'.2]
   rfl
theorem zrf {W : World} {cs : Array Value} (hv : W.var? Tryz.prog "kingpost/front.directions" = some cs) (hc : cs.toList = zsh) : zsV W := by
 unfold World.var? at hv
 rw[zum]at hv
 simp only[Option.bind_some]at hv
 cases hh:W.heap[3]? with
 | none=>rw[hh]at hv;cases hv
 | some o =>
  rw[hh]at hv
  cases o <;> simp at hv
  rename_i c t f
  subst hv
  exact⟨t,f,by rw[hh,← hc]⟩
theorem zoB{W:World}{name nm:String}{cs:Array Value}{fuel:Nat}{d:DataW Unit}{p:List MemPlace}(hv:W.var? Tryz.prog name=some cs)(hd:DataW.trod (fun _=>()) Tryz.prog W 0 (fun _=>true) false fuel 282 cs.toList=some (.iface nm d,p)) :
  ∃ tp q,W.var? Tryz.prog name=some #[.iface tp q]:=by
 obtain⟨_,u,v,e,_⟩:=iface_of_trod Tryz.underlying282 hd
 exact⟨u,v,by rw[hv];congr 1;exact Array.toList_inj.1 e⟩
structure Listed (L:List (String × DataW Unit)):Prop where
 pow10 : ("internal/strconv.uint64pow10", Rows.laid_internal_strconv_uint64pow10) ∈ L
 errSyntax : ("strconv.ErrSyntax", Rows.laid_strconv_ErrSyntax) ∈ L
 errRange : ("strconv.ErrRange", Rows.laid_strconv_ErrRange) ∈ L
 primes : ("kingpost/root.primes", Rows.laid_kingpost_root_primes) ∈ L
 places : ("kingpost/surd.signPlaces", Rows.laid_kingpost_surd_signPlaces) ∈ L
 dirs : ("kingpost/front.directions", Rows.laid_kingpost_front_directions) ∈ L
theorem Env.of{W : World}{L : List (String × DataW Unit)}(hsh : W.ShapedOpen Tryz.prog)(hl : laidMetH Tryz.prog L W)(hL : Listed L) : Env W := by
  obtain⟨ps, hv, _⟩ := (laidMetH_iff.1 hl).1
  obtain⟨g1, t1, cs1, f1, p1, a1, b1, c1, d1⟩ := zbO hv (List.mem_filter.2 ⟨hL.pow10, by kernel_rfl⟩)
  obtain⟨g2, t2, cs2, f2, p2, a2, b2, c2, d2⟩ := zbO hv (List.mem_filter.2 ⟨hL.errSyntax, by kernel_rfl⟩)
  obtain⟨g3, t3, cs3, f3, p3, a3, b3, c3, d3⟩ := zbO hv (List.mem_filter.2 ⟨hL.errRange, by kernel_rfl⟩)
  obtain⟨g4, t4, cs4, f4, p4, a4, b4, c4, d4⟩ := zbO hv (List.mem_filter.2 ⟨hL.primes, by kernel_rfl⟩)
  obtain rfl := Option.some.inj (a1.symm.trans zsP)
  obtain rfl := Option.some.inj (a2.symm.trans zkC)
  obtain rfl := Option.some.inj (a3.symm.trans zmM)
  obtain rfl := Option.some.inj (a4.symm.trans zqY)
  obtain rfl := Option.some.inj (b1.symm.trans ztW)
  obtain rfl := Option.some.inj (b2.symm.trans zo1)
  obtain rfl := Option.some.inj (b3.symm.trans zqa)
  obtain rfl := Option.some.inj (b4.symm.trans zsY)
  obtain⟨g6, t6, cs6, f6, p6, a6, b6, c6, d6⟩ := zbO hv (List.mem_filter.2 ⟨hL.places, by kernel_rfl⟩)
  obtain rfl := Option.some.inj (a6.symm.trans zqZ)
  obtain rfl := Option.some.inj (b6.symm.trans zsZ)
  have e6 : (Rows.laid_kingpost_surd_signPlaces : DataW Unit) = Lib.tabData .i64 [4, 16, 64] := rfl
  rw[e6]at d6
  obtain⟨g7, t7, cs7, f7, p7, a7, b7, c7, d7⟩ := zbO hv (List.mem_filter.2 ⟨hL.dirs, by kernel_rfl⟩)
  obtain rfl := Option.some.inj (a7.symm.trans zum)
  obtain rfl := Option.some.inj (b7.symm.trans zuz)
  have e1 : (Rows.laid_internal_strconv_uint64pow10 : DataW Unit) = Lib.tabData .u64 Lib.pow10Tab := rfl
  have e4 : (Rows.laid_kingpost_root_primes : DataW Unit) = .agg (zdb.map fun s => .lit (.string s)) := rfl
  rw[e1]at d1
  rw[e4]at d4
  exact
  { size := Nat.succ_le_of_lt (zmu (g := ng - 1) hsh (of_decide_eq_true (by kernel_rfl)) (by kernel_rfl))
    maxlen := cell_of_shapedOpen_int (zero := #[.int .i64 0]) (t := 3) hsh (of_decide_eq_true (by kernel_rfl)) (by kernel_rfl) rfl (by kernel_rfl) (by kernel_rfl) Tryz.underlying3
    pow10 := by unfold Lib.TabIs;rw[c1, ← Lib.cells_of_tab Tryz.underlying345 Tryz.underlying306 zuS zup d1]
    errSyntax := zoB c2 d2
    errRange := zoB c3 d3
    primes := zqd zqY c4 (zlE Tryz.underlying331 Tryz.underlying9 ztD ztE d4)
    places := zqP (l := [4, 16, 64]) zqZ c6 (Lib.cells_of_tab Tryz.underlying213 Tryz.underlying3 zuT ztF d6)
    dirs := zrf c7 (zlF d7)
 }
section
variable {H:Type} {enc:TypeId × Value→H} {P:Program} {w:World} {base:Nat} {spare:Nat→Bool} {held:Bool}
theorem zgf(hl:laidOutB P=true){W W':World}(hb:Below W.heap.size W W') :
  ∀ {ts:List TypeId} {vs:List Value} {ds:List (DataW H)} {ps:List MemPlace},(ts.all fun t=>P.readableRec t && decide (t<P.types.size))=true→DataW.TrodAll enc P W 0 (fun _=>true) true ts vs ds ps→(∀ x∈ps,x.block<W.heap.size) →
   DataW.TrodAll enc P W' 0 (fun b=>decide (b<W.heap.size)) true ts vs ds ps
 | [],vs,ds,ps,_,h,_=>by
  obtain⟨rfl,rfl,rfl⟩:=trodAll_nil h
  exact trodAll_mk0
 | t::ts,vs,ds,ps,ht,h,hlt=>by
  obtain⟨v,vs',d,ds',p,q,rfl,rfl,rfl,h1,h2⟩:=trodAll_cons h
  simp only[List.all_cons,Bool.and_eq_true,decide_eq_true_eq]at ht
  exact trodAll_cons_mk (Below.trod hl ht.1.1 ht.1.2 h1 hb (fun x hx=>hlt x (by simp[hx]))) (zgf hl hb ht.2 h2 (fun x hx=>hlt x (by simp[hx])))
end
theorem zrX{H:Type}{enc:TypeId × Value→H}{fn:Func}{s:ChangeSpec}{W W':World}{args:Array Value}{ds gs:List (DataW H)}{before:List MemPlace}
  (hW:DataW.Whole enc Tryz.prog fn.params.toList s.vars false W args.toList ds gs before)(hrt:fn.resultTypes=#[4])(hv:s.vars=[])
  (hres:(s.fn H (ds++gs)).results=[.lit (.bool true)])(hargs:(s.fn H (ds++gs)).args=ds)(hvars:(s.fn H (ds++gs)).vars=[])
  (hty:(fn.params.toList.all fun t=>Tryz.prog.readableRec t && decide (t<Tryz.prog.types.size))=true)(hb:Below W.heap.size W W') :
  s.post enc Tryz.prog fn false true false false W args (.bool true) W':=by
 have hW':=hW
 obtain⟨p,q,hA,hV,rfl,_,_⟩:=hW
 rw[hv]at hV
 obtain⟨rfl,rfl⟩:=trodVars_none hV
 have hlt:∀ x∈p,x.block<W.heap.size:=fun x hx=>hW'.lt x (by simp[hx])
 refine⟨ds,[],p++[],[],p,[],hW',?_,?_,?_,?_,fun h=>by cases h⟩
 ·rw[hres,hrt];exact trodAll_mk1 (shut_bool Tryz.underlying4 true)
 ·rw[hargs];exact zgf laidOut hb hty hA hlt
 ·rw[hvars,hv];exact rfl
 ·exact hb.frame _
def zsR:DataW Unit→List Value
 | .lit l=>[l.value]
 | _=>[]
def zsQ:DataW Unit→List Value
 | .agg l=>l.flatMap zsR
 | d=>zsR d
def cells3:DataW Unit→List Value
 | .agg l=>l.flatMap zsQ
 | d=>zsQ d
def zew(h:Array Obj)(g:Nat)(cs:List Value):Array Obj:=h.modify g fun
 | .cells _ t frozen=>.cells cs.toArray t frozen
 | o=>o
noncomputable def zjr (os:Os):World :=
 let N:=(World.settled Tryz.prog os).heap.size
 let w0:=World.holding Tryz.prog os ⟨#[.cells #[.string ⟨#[118,97,108,117,101,32,111,117,116,32,111,102,32,114,97,110,103,101]⟩] 387,.cells #[.string ⟨#[105,110,118,97,108,105,100,32,115,121,110,116,97,120]⟩] 387,.map #[{ key:=.int .i64 1,val:=.func (.func 352) #[] #[],born:=0 },{ key:=.int .i64 2,val:=.func (.func 352) #[] #[],born:=1 },{ key:=.int .i64 3,val:=.func (.func 352) #[] #[],born:=2 },{ key:=.int .i64 4,val:=.func (.func 353) #[] #[],born:=3 },{ key:=.int .i64 5,val:=.func (.func 353) #[] #[],born:=4 },{ key:=.int .i64 6,val:=.func (.func 352) #[] #[],born:=5 },{ key:=.int .i64 7,val:=.func (.func 353) #[] #[],born:=6 },{ key:=.int .i64 8,val:=.func (.func 353) #[] #[],born:=7 }] 8,.map #[{ key:=.int .i64 1,val:=.func (.func 344) #[] #[],born:=0 },{ key:=.int .i64 2,val:=.func (.func 344) #[] #[],born:=1 },{ key:=.int .i64 3,val:=.func (.func 344) #[] #[],born:=2 },{ key:=.int .i64 4,val:=.func (.func 344) #[] #[],born:=3 },{ key:=.int .i64 5,val:=.func (.func 344) #[] #[],born:=4 },{ key:=.int .i64 6,val:=.func (.func 345) #[] #[],born:=5 },{ key:=.int .i64 7,val:=.func (.func 345) #[] #[],born:=6 }] 7],#[],[]⟩
 let h1:=zew w0.heap 9 (cells3 Rows.laid_math_bits_deBruijn32tab)
 let h2:=zew h1 10 (cells3 Rows.laid_math_bits_deBruijn64tab)
 let h3:=zew h2 5 (cells3 Rows.laid_internal_strconv_uint64pow10)
 let h4:=zew h3 12 (cells3 Rows.laid_unicode_utf8_acceptRanges)
 let h5:=zew h4 8 [.iface 385 (.pointer (some ⟨N,0,none⟩))]
 let h6:=zew h5 7 [.iface 385 (.pointer (some ⟨N+1,0,none⟩))]
 let h7:=zew h6 4 (cells3 Rows.laid_kingpost_root_primes)
 let h7:=zew h7 1 (cells3 Rows.laid_kingpost_surd_signPlaces)
 let h7:=zew h7 2 [.map (some (N+2))]
 let h7:=zew h7 0 [.map (some (N+3))]
 let h7:=zew h7 3 (cells3 Rows.laid_kingpost_front_directions)
 let h8:=zew h7 11 (cells3 Rows.laid_unicode_utf8_first)
 { w0 with heap:=h8 }
def zsG : List (String × DataW Unit) := [("math/bits.deBruijn32tab", Rows.laid_math_bits_deBruijn32tab), ("math/bits.deBruijn64tab", Rows.laid_math_bits_deBruijn64tab), ("internal/strconv.uint64pow10", Rows.laid_internal_strconv_uint64pow10), ("unicode/utf8.acceptRanges", Rows.laid_unicode_utf8_acceptRanges), ("strconv.ErrRange", Rows.laid_strconv_ErrRange), ("strconv.ErrSyntax", Rows.laid_strconv_ErrSyntax),
 ("kingpost/front.directions", Rows.laid_kingpost_front_directions),
 ("kingpost/root.primes", Rows.laid_kingpost_root_primes),
 ("kingpost/surd.signPlaces", Rows.laid_kingpost_surd_signPlaces),
 ("kingpost/ridgeline.sides", Rows.laid_kingpost_ridgeline_sides),
 ("kingpost/bevel.asks", Rows.laid_kingpost_bevel_asks),
 ("unicode/utf8.first", Rows.laid_unicode_utf8_first)]
theorem listed:Listed zsG where
 pow10:=by simp[zsG]
 errSyntax:=by simp[zsG]
 errRange:=by simp[zsG]
 primes:=by simp[zsG]
 places:=by simp[zsG]
 dirs:=by simp[zsG]
theorem zrY(os:Os)(args:Array Value):laidMetH Tryz.prog zsG ((zjr os).forCall (fun _ _=>0) ⟨#[],args,[]⟩).memory :=
 laidMetH_of_parts3 (fuel:=10) (laidMet_of_run' 10 (by kernel_rfl) (by kernel_rfl)) (by kernel_rfl) (by kernel_rfl)
end
end Go.Proofs.YthdpnkkddhcacaaGreatDoor
