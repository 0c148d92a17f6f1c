/-
  CutlistOthers answers true for every slice of pieces, every int and every string and leaves the slice as it was. The package-level variables that the row lists hold what the program's text lays.
-/
import Derived.Test.YtohlpeicpoaanaaGreatDoorKZ
import Derived.Test.YtohlpeicpoaanaaGreatDoorCU
import Derived.ChangeMaps5
namespace Go.Proofs.YtohlpeicpoaanaaGreatDoor.cothers
open Go.ChangeShapes Go.WideShapes Go.ChangeAt Go.RowKit Go.Deep Kp
open Go.ChangeMaps (open_string)
set_option maxRecDepth 100000 in
theorem contract (H:Type) (enc:TypeId × Value→H) (W:World) (base:Nat) (args:Array Value) (ds gs:List (DataW H)) (before:List MemPlace)
  (hval:∀ (j:Nat) t v,Tryz.f5.params[j]? = some t→args[j]? = some v→Value.okWide Tryz.prog W .any base t v)
  (hW:DataW.Whole enc Tryz.prog Tryz.f5.params.toList Rows.cutlistOthersSpec.vars false W args.toList ds gs before)
  (hz:(DataW.weightsEach Tryz.prog (Tryz.f5.params.toList++(OpenSpec.ofChange Rows.cutlistOthersSpec).bare.plain.varTypes Tryz.prog) (ds++gs)).all (·≤reachBytes)=true)
  (hL:laidMetH Tryz.prog Rows.cutlistOthersRow.laid W) (hsh:W.ShapedOpen Tryz.prog) :
  Calls Tryz.prog 5 args W fun e W'=>∃ v,e=.returned v∧Rows.cutlistOthersSpec.post enc Tryz.prog Tryz.f5 false true false false W args v W':=by
 have hE:=Env.of hsh hL listed
 have hW':=hW
 obtain ⟨p,q,hA0,hV,rfl,-,-⟩:=hW
 have hA:DataW.TrodAll enc Tryz.prog W 0 (fun _=>true) true Tryz.f5.params.toList args.toList ds p:=hA0
 rw [Tryz.params5] at hA hval hz
 obtain ⟨rfl,rfl⟩:=trodVars_none hV
 obtain ⟨v0,v1,v2,d0,d1,d2,p0,p1,p2,rfl,rfl,rfl,h0,h1,h2⟩:=trodAll_three hA
 obtain ⟨l0,hl0,hn0⟩:=open_cuts (hval 0 22 v0 rfl rfl) h0 (fun elems spare hd=>sized_slice hz (j:=0) rfl (by rw [hd]; rfl) Tryz.underlying22)
 obtain ⟨x1,rfl,rfl,rfl,wf1⟩:=open_int Tryz.underlying3 (hval 1 3 v1 rfl rfl) h1
 obtain ⟨s2,rfl,rfl,rfl,wf2⟩:=open_string Tryz.underlying9 (hval 2 9 v2 rfl rfl) h2
 obtain ⟨x2,rfl⟩:∃ x:Str,s2=⟨x.toArray⟩:=⟨s2.data.toList,by simp⟩
 refine (others_law l0 hn0 x1 x2 (by unfold maxLen at wf2; exact wf2) v0 W hE hl0).mono fun e W' ⟨he,hq⟩=>?_
 subst he
 exact ⟨_,rfl,law_done hW' rfl rfl rfl rfl rfl (by kernel_rfl) hq⟩
theorem reads (os:Os) {H:Type} (enc:TypeId × Value→H):∃ places,DataW.whole enc Tryz.prog ((laidWorld os).forCall (fun _ _=>0) ⟨#[],#[.slice none 0 0,.int .i64 0,.string ⟨#[]⟩],[]⟩).memory Tryz.f5.params.toList Rows.cutlistOthersSpec.vars false #[Value.slice none 0 0,Value.int .i64 0,Value.string ⟨#[]⟩].toList 8=some ([.nil,.lit (.int .i64 0),.lit (.string [])],[],places) :=
 ⟨[],by kernel_rfl⟩
set_option maxRecDepth 100000 in
theorem lifted (os:Os) (started:os.Started) (H:Type) (enc:TypeId × Value→H) (F:Stop.Interp) :
  ReturnsInHanded {} Tryz.checked os 5 .any ((OpenSpec.ofChange Rows.cutlistOthersSpec).preRow enc Tryz.prog Tryz.f5 Rows.cutlistOthersRow.domain false Rows.cutlistOthersRow.laid) (((OpenSpec.ofChange Rows.cutlistOthersSpec).at F).post enc Tryz.prog Tryz.f5 false true false false):=by
 obtain ⟨places,hx⟩:=reads os enc
 refine returnsInHanded_of_row (C:=Tryz.checked) (s:=OpenSpec.ofChange Rows.cutlistOthersSpec) own started (by kernel_rfl) Tryz.func5
  (witness_row_atRef (enc:=enc) (C:=Tryz.checked) false (laidWorld os) #[.slice none 0 0,.int .i64 0,.string ⟨#[]⟩] rfl (by kernel_rfl) (by kernel_rfl) (by kernel_rfl)
   (OpenSpec.preRow_of_cond 8 hx (by kernel_rfl) (fun k hk=>by cases hk) (by kernel_rfl) (laid_met os _))) ?_
 intro W base args ds gs before hval hW _ _ hz hL hsh _
 exact contract H enc W base args ds gs before hval hW hz hL hsh
theorem named:Tryz.pinned.checked.prog.funcNamed Rows.cutlistOthersRow.func=some 5:=by kernel_rfl
theorem facts:joinedFacts Tryz.pinned.checked.prog 5 Tryz.f5 (OpenSpec.ofChange Rows.cutlistOthersSpec).bare Rows.cutlistOthersRow=true:=by kernel_rfl
theorem inst:Tryz.f5.isInstance Tryz.pinned.checked.prog Rows.cutlistOthersRow.origin Rows.cutlistOthersRow.targs:=of_decide_eq_true (by kernel_rfl)
theorem wrap:Tryz.f5.isWrapper Tryz.pinned.checked.prog Rows.cutlistOthersRow.wrapper Rows.cutlistOthersRow.mainSum:=by unfold Func.isWrapper; first | (rw [if_pos (by decide +kernel)]; kernel_rfl) | (rw [if_neg (by decide +kernel)]; exact ⟨rfl,rfl⟩)
theorem said:Rows.CutlistOthersSaid :=
 OpenClaim.holds_of_cond 5 Tryz.f5 rfl rfl rfl rfl rfl rfl rfl ⟨rfl,rfl,rfl,rfl,rfl⟩ rfl rfl rfl rfl rfl named Tryz.func5 facts inst wrap
  (fun os started H enc _ F=>by rw [OpenClaim.pre_eq_preRow]; exact lifted os started H enc F)
theorem plain (f:FuncId) (fn:Func) (hf:Tryz.pinned.checked.prog.funcNamed Rows.cutlistOthersRow.func=some f) (hfn:Tryz.pinned.checked.prog.funcs[f]? = some fn) :
  true=Tryz.pinned.checked.prog.looks []∧∀ (j:Nat) t,fn.params[j]? = some t→Tryz.pinned.checked.prog.wantsStandIn t=false:=by
 obtain rfl:f=5:=Option.some.inj (named.symm.trans hf) |>.symm
 obtain rfl:fn=Tryz.f5:=(Option.some.inj (Tryz.func5.symm.trans hfn)).symm
 refine ⟨by kernel_rfl,fun j t ht=>?_⟩
 rw [Tryz.params5] at ht
 have hm:t=22∨t=3∨t=9:=by simpa using Array.mem_of_getElem? ht
 rcases hm with rfl | rfl | rfl
 ·exact (show Tryz.prog.wantsStandIn 22=false by kernel_rfl)
 ·exact (show Tryz.prog.wantsStandIn 3=false by kernel_rfl)
 ·exact (show Tryz.prog.wantsStandIn 9=false by kernel_rfl)
theorem card:Rows.CutlistOthersCardSaid :=
 Claim7.holds_tied_plain_at .later [] _ _ _ _ said (fun _ h=>by cases h) (by kernel_rfl) (fun _ h=>by cases h) cutlistOthers_row_tie rfl ⟨rfl,rfl⟩ (by kernel_rfl) rfl plain (by kernel_rfl)
end Go.Proofs.YtohlpeicpoaanaaGreatDoor.cothers
