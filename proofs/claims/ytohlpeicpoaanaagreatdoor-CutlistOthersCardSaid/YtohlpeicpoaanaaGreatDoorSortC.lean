/-
  slices.SortFunc at pieces: the library's contract laid at this program.
-/
import Derived.Test.YtohlpeicpoaanaaGreatDoorProg
import Derived.Shelf.SlSortCmp.NoneTotal
namespace Go.Proofs
open Go.Shelf
def Tryz.sortCut_ren:Go.Shelf.Ren:=⟨fun | 6=>30 | 15=>50 | 14=>49 | 28=>78 | 29=>79 | 20=>70 | 21=>71 | 22=>72 | 23=>73 | 24=>74 | 25=>75 | 26=>76 | 27=>77 | 46=>101 | 47=>102 | 48=>103 | 49=>104 | 50=>105 | 57=>139 | n=>n,fun | 22=>22 | 24=>42 | 25=>63 | 3=>3 | 39=>90 | 0=>0 | 53=>132 | 55=>134 | 4=>4 | 46=>125 | 45=>124 | 50=>129 | 5=>5 | 9=>9 | 66=>161 | 70=>165 | 76=>205 | 77=>206 | n=>n,fun | n=>n⟩
theorem Tryz.sortCut:Go.Proofs.SlLaysF0.n6 Tryz.prog Tryz.sortCut_ren:={
 mixed:=by kernel_rfl
 f6:=⟨Tryz.f30.name,by decide,Tryz.func30.trans (congrArg some (by kernel_rfl))⟩
 f14:=⟨Tryz.f49.name,by decide,Tryz.func49.trans (congrArg some (by kernel_rfl))⟩
 f15:=Tryz.func50.trans (congrArg some (by kernel_rfl))
 f20:=⟨Tryz.f70.name,by decide,Tryz.func70.trans (congrArg some (by kernel_rfl))⟩
 f21:=⟨Tryz.f71.name,by decide,Tryz.func71.trans (congrArg some (by kernel_rfl))⟩
 f22:=⟨Tryz.f72.name,by decide,Tryz.func72.trans (congrArg some (by kernel_rfl))⟩
 f23:=⟨Tryz.f73.name,by decide,Tryz.func73.trans (congrArg some (by kernel_rfl))⟩
 f24:=⟨Tryz.f74.name,by decide,Tryz.func74.trans (congrArg some (by kernel_rfl))⟩
 f25:=⟨Tryz.f75.name,by decide,Tryz.func75.trans (congrArg some (by kernel_rfl))⟩
 f26:=⟨Tryz.f76.name,by decide,Tryz.func76.trans (congrArg some (by kernel_rfl))⟩
 f27:=⟨Tryz.f77.name,by decide,Tryz.func77.trans (congrArg some (by kernel_rfl))⟩
 f28:=Tryz.func78.trans (congrArg some (by kernel_rfl))
 f29:=Tryz.func79.trans (congrArg some (by kernel_rfl))
 f46:=⟨Tryz.f101.name,by decide,Tryz.func101.trans (congrArg some (by kernel_rfl))⟩
 f47:=Tryz.func102.trans (congrArg some (by kernel_rfl))
 f48:=Tryz.func103.trans (congrArg some (by kernel_rfl))
 f49:=⟨Tryz.f104.name,by decide,Tryz.func104.trans (congrArg some (by kernel_rfl))⟩
 f50:=⟨Tryz.f105.name,by decide,Tryz.func105.trans (congrArg some (by kernel_rfl))⟩
 f57:=⟨Tryz.f139.name,by decide,Tryz.func139.trans (congrArg some (by kernel_rfl))⟩
 t0:=Tryz.underlying0
 a0:=Tryz.isAgg0
 z0:=Tryz.sizeOf0
 v0:=Tryz.zeroValue0
 t3:=Tryz.underlying3
 a3:=Tryz.isAgg3
 z3:=Tryz.sizeOf3
 v3:=Tryz.zeroValue3
 t4:=Tryz.underlying4
 a4:=Tryz.isAgg4
 z4:=Tryz.sizeOf4
 v4:=Tryz.zeroValue4
 t5:=Tryz.underlying5
 a5:=Tryz.isAgg5
 z5:=Tryz.sizeOf5
 v5:=Tryz.zeroValue5
 t9:=Tryz.underlying9
 a9:=Tryz.isAgg9
 z9:=Tryz.sizeOf9
 v9:=Tryz.zeroValue9
 t22:=Tryz.underlying22
 a22:=Tryz.isAgg22
 z22:=Tryz.sizeOf22
 v22:=Tryz.zeroValue22
 t25:=Tryz.underlying63
 a25:=Tryz.isAgg63
 z25:=Tryz.sizeOf63
 v25:=Tryz.zeroValue63
 t39:=Tryz.underlying90
 a39:=Tryz.isAgg90
 z39:=Tryz.sizeOf90
 v39:=Tryz.zeroValue90
 t45:=Tryz.underlying124
 a45:=Tryz.isAgg124
 z45:=Tryz.sizeOf124
 v45:=Tryz.zeroValue124
 t46:=Tryz.underlying125
 a46:=Tryz.isAgg125
 z46:=Tryz.sizeOf125
 v46:=Tryz.zeroValue125
 t50:=Tryz.underlying129
 a50:=Tryz.isAgg129
 z50:=Tryz.sizeOf129
 v50:=Tryz.zeroValue129
 t53:=Tryz.underlying132
 a53:=Tryz.isAgg132
 z53:=Tryz.sizeOf132
 v53:=Tryz.zeroValue132
 t55:=Tryz.underlying134
 a55:=Tryz.isAgg134
 z55:=Tryz.sizeOf134
 v55:=Tryz.zeroValue134
 t66:=Tryz.underlying161
 a66:=Tryz.isAgg161
 z66:=Tryz.sizeOf161
 v66:=Tryz.zeroValue161
 t70:=Tryz.underlying165
 a70:=Tryz.isAgg165
 z70:=Tryz.sizeOf165
 v70:=Tryz.zeroValue165
 t76:=Tryz.underlying205
 a76:=Tryz.isAgg205
 z76:=Tryz.sizeOf205
 v76:=Tryz.zeroValue205
 t77:=Tryz.underlying206
 a77:=Tryz.isAgg206
 z77:=Tryz.sizeOf206
 v77:=Tryz.zeroValue206 }
end Go.Proofs
