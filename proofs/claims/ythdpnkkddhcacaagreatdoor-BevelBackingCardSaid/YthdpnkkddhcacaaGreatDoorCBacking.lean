/-
  BevelBacking answers true for every five bytes. The package-level variables that the row lists hold what the program's text lays.
-/
import Derived.Test.YthdpnkkddhcacaaGreatDoorBKFCBacking
import Derived.Test.YthdpnkkddhcacaaGreatDoorBK27
import Derived.Test.YthdpnkkddhcacaaGreatDoorBKFOW
set_option maxRecDepth 100000
namespace Go.Proofs.YthdpnkkddhcacaaGreatDoor.backing
open Go.ChangeShapes Go.WideShapes Go.ChangeAt Go.RowKit Go.Deep Kp
theorem contract(H:Type)(enc:TypeId × Value→H)(W:World)(base:Nat)(args:Array Value)(ds gs:List (DataW H))(before:List MemPlace)
  (hval:∀ (j:Nat) t v,Tryz.f3.params[j]? = some t→args[j]? = some v→Value.okWide Tryz.prog W .any base t v)
  (hW:DataW.Whole enc Tryz.prog Tryz.f3.params.toList Rows.bevelBackingSpec.vars false W args.toList ds gs before)
  (hz:(DataW.weightsEach Tryz.prog (Tryz.f3.params.toList++(OpenSpec.ofChange Rows.bevelBackingSpec).bare.plain.varTypes Tryz.prog) (ds++gs)).all (·≤reachBytes)=true)
  (hL:laidMetH Tryz.prog Rows.bevelBackingRow.laid W)(hsh:W.ShapedOpen Tryz.prog) :
  Calls Tryz.prog 3 args W fun e W'=>∃ v,e=.returned v∧Rows.bevelBackingSpec.post enc Tryz.prog Tryz.f3 false true false false W args v W':=by
 have hE:=Env.of hsh hL listed
 have hW':=hW
 obtain⟨p,q,hA0,hV,rfl,-,-⟩:=hW
 have hA:DataW.TrodAll enc Tryz.prog W 0 (fun _=>true) true Tryz.f3.params.toList args.toList ds p:=hA0
 rw[Tryz.params3]at hA hval hz
 obtain⟨rfl,rfl⟩:=trodVars_none hV
 obtain⟨v0,v1,v2,v3,v4,d0,d1,d2,d3,d4,p0,p1,p2,p3,p4,rfl,rfl,rfl,h0,h1,h2,h3,h4⟩:=zlT hA
 obtain⟨x0,rfl,rfl,rfl,wf0⟩:=open_int Tryz.underlying5 (hval 0 5 v0 rfl rfl) h0
 obtain⟨x1,rfl,rfl,rfl,wf1⟩:=open_int Tryz.underlying5 (hval 1 5 v1 rfl rfl) h1
 obtain⟨x2,rfl,rfl,rfl,wf2⟩:=open_int Tryz.underlying5 (hval 2 5 v2 rfl rfl) h2
 obtain⟨x3,rfl,rfl,rfl,wf3⟩:=open_int Tryz.underlying5 (hval 3 5 v3 rfl rfl) h3
 obtain⟨x4,rfl,rfl,rfl,wf4⟩:=open_int Tryz.underlying5 (hval 4 5 v4 rfl rfl) h4
 refine(zn3 x0 x1 x2 x3 x4 (zge wf0) (zge wf1) (zge wf2) (zge wf3) (zge wf4) W hE (LH (fun w' hq=>ztM w' (hE.ofQ hq) ((ztN hL (by simp[Rows.bevelBackingRow])).q hq)))).mono fun e W' ⟨he,hq⟩=>?_
 subst he
 exact⟨_,rfl,zrX hW' rfl rfl rfl rfl rfl (by kernel_rfl) hq⟩
theorem reads(os:Os){H:Type}(enc:TypeId × Value→H):∃ places,DataW.whole enc Tryz.prog ((zjr os).forCall (fun _ _=>0) ⟨#[],#[.int .u8 0,.int .u8 0,.int .u8 0,.int .u8 0,.int .u8 0],[]⟩).memory Tryz.f3.params.toList Rows.bevelBackingSpec.vars false #[Value.int .u8 0,Value.int .u8 0,Value.int .u8 0,Value.int .u8 0,Value.int .u8 0].toList 8=some ([.lit (.int .u8 0),.lit (.int .u8 0),.lit (.int .u8 0),.lit (.int .u8 0),.lit (.int .u8 0)],[],places) :=
 ⟨[],by kernel_rfl⟩
theorem lifted(os:Os)(started:os.Started)(H:Type)(enc:TypeId × Value→H)(F:Stop.Interp) :
  ReturnsInHanded {} Tryz.checked os 3 .any ((OpenSpec.ofChange Rows.bevelBackingSpec).preRow enc Tryz.prog Tryz.f3 Rows.bevelBackingRow.domain false Rows.bevelBackingRow.laid) (((OpenSpec.ofChange Rows.bevelBackingSpec).at F).post enc Tryz.prog Tryz.f3 false true false false):=by
 obtain⟨places,hx⟩:=reads os enc
 refine returnsInHanded_of_row (C:=Tryz.checked) (s:=OpenSpec.ofChange Rows.bevelBackingSpec) own started (by kernel_rfl) Tryz.func3
  (witness_row_atRef (enc:=enc) (C:=Tryz.checked) false (zjr os) #[.int .u8 0,.int .u8 0,.int .u8 0,.int .u8 0,.int .u8 0] rfl (by kernel_rfl) (by kernel_rfl) (by kernel_rfl)
   (OpenSpec.preRow_of_cond 8 hx (by kernel_rfl) (fun k hk=>by cases hk) (by kernel_rfl) (zrY os _))) ?_
 intro W base args ds gs before hval hW _ _ hz hL hsh _
 exact contract H enc W base args ds gs before hval hW hz hL hsh
theorem said:Rows.BevelBackingSaid :=
 OpenClaim.holds_of_cond 3 Tryz.f3 rfl rfl rfl rfl rfl rfl rfl ⟨rfl,rfl,rfl,rfl,rfl⟩ rfl rfl rfl rfl rfl named Tryz.func3 facts inst wrap
  (fun os started H enc _ F=>by rw[OpenClaim.pre_eq_preRow];exact lifted os started H enc F)
theorem plain(f:FuncId)(fn:Func)(hf:Tryz.pinned.checked.prog.funcNamed Rows.bevelBackingRow.func=some f)(hfn:Tryz.pinned.checked.prog.funcs[f]? = some fn) :
  true=Tryz.pinned.checked.prog.looks []∧∀ (j:Nat) t,fn.params[j]? = some t→Tryz.pinned.checked.prog.wantsStandIn t=false:=by
 obtain rfl:f=3:=Option.some.inj (named.symm.trans hf) |>.symm
 obtain rfl:fn=Tryz.f3:=(Option.some.inj (Tryz.func3.symm.trans hfn)).symm
 refine⟨by kernel_rfl,fun j t ht=>?_⟩
 rw[Tryz.params3]at ht
 obtain rfl:t=5:=by simpa using Array.mem_of_getElem? ht
 exact(show Tryz.prog.wantsStandIn 5=false by kernel_rfl)
theorem card:Rows.BevelBackingCardSaid :=
 Claim7.holds_tied_plain_at .later [] _ _ _ _ said (fun _ h=>by cases h) (by kernel_rfl) (fun _ h=>by cases h) bevelBacking_row_tie rfl ⟨rfl,rfl⟩ (by kernel_rfl) rfl plain (by kernel_rfl)
end Go.Proofs.YthdpnkkddhcacaaGreatDoor.backing
