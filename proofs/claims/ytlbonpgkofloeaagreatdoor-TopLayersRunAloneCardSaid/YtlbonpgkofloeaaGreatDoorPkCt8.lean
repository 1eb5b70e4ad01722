/- Joined. -/
import Derived.Test.YtlbonpgkofloeaaGreatDoorPkCt6
set_option linter.unusedSimpArgs false
set_option linter.unusedVariables false
set_option maxRecDepth 1000000
open Go
namespace Go.Proofs.YtlbonpgkofloeaaGreatDoor
section
namespace Ev
def Iqtl:List Nat:=nats 120 0xa3b65757274203d3a206d203e2d20296d2e7128656d6f7321202626206d21203a7265746e6520656c75720a3b65736c6166203d3a206d203e2d20296d2e7128656d6f73202626206d203a657661656c20656c75720a3b6c6f6f62203a206d207261760a3b746e65646e657065646e69206d6172676f7270
def ywp:ByteArray:=by8 Iqtl
def Iqtk:List (Nat×Nat×Nat×Nat):=lexT 121 Iqtl 0
def yceu:List Value:=rowN Iqtk
def Iqb0:BlkL:=⟨347,188,2,(iiL [41,0,5,0,21,0,12,0])⟩
def Iqb1:BlkL:=⟨360,188,2,(iiL [3,0])⟩
def Iqb2:BlkL:=⟨367,132,2,[ii 0,.slice (some ⟨360,0,none⟩) 1 1]⟩
def Iqb3:BlkL:=⟨432,188,2,(iiL [41,0,19,0,5,0,19,0,21,0,12,0])⟩
def Iqb4:BlkL:=⟨445,188,2,(iiL [2,0])⟩
def Iqb5:BlkL:=⟨452,132,2,[ii 0,.slice (some ⟨445,0,none⟩) 1 1]⟩
end Ev
end
section
namespace Ev
def ydkr:List Fact:=[⟨103,[.string ywp],2,[],.tuple #[sc 274 42,ii 0,ii 0],275,[⟨274,160,4,yceu⟩],2⟩]
theorem ycnv:yc ydkr:=yc.seq yc.nil (by kernel_rfl)
def ydkb:List Fact:=[⟨194,[.pointer (some ⟨275,0,none⟩)],374,[⟨274,160,4,yceu⟩,⟨275,107,0,[.string ywp,.slice (some ⟨274,100,none⟩) 17 CU,sc 294 1,sv [105,110,100,101,112,101,110,100,101,110,116],sc 296 1,sc 371 1,sc 303 1]⟩,⟨294,9,1,[sv [109]]⟩,⟨296,69,6,[sv [109],ii 2,ii 0,ii 0,ii 0,ii 0]⟩,⟨303,9,1,[sv [108,101,97,118,101]]⟩,Iqb0,Iqb1,Iqb2,⟨371,88,3,[sv [108,101,97,118,101],sc 347 4,sc 367 1]⟩],.tuple #[],457,[⟨275,107,0,[.string ywp,.slice (some ⟨274,168,none⟩) 0 CU,sc 294 1,sv [105,110,100,101,112,101,110,100,101,110,116],sc 296 1,sc 456 2,sc 378 2]⟩,⟨294,9,1,[sv [109]]⟩,⟨296,69,6,[sv [109],ii 2,ii 0,ii 0,ii 0,ii 0]⟩,Iqb0,Iqb1,Iqb2,⟨378,9,1,[sv [108,101,97,118,101],sv [101,110,116,101,114]]⟩,Iqb3,Iqb4,Iqb5,⟨456,88,3,[sv [108,101,97,118,101],sc 347 4,sc 367 1,sv [101,110,116,101,114],sc 432 6,sc 452 1]⟩],275⟩]
theorem ycqr:yc ydkb:=yc.seq yc.nil (by kernel_rfl)
def ycan:Fact:=⟨77,[.agg #[sv [105,110,100,101,112,101,110,100,101,110,116],sc 296 1,sc 456 2]],680,[⟨296,69,6,[sv [109],ii 2,ii 0,ii 0,ii 0,ii 0]⟩,Iqb0,Iqb1,Iqb2,Iqb3,Iqb4,Iqb5,⟨456,88,3,[sv [108,101,97,118,101],sc 347 4,sc 367 1,sv [101,110,116,101,114],sc 432 6,sc 452 1]⟩],.bool true,903,[],680⟩
def ydks:List Fact:=[ycan]
theorem ycrd:yc ydks:=yc.seq yc.nil (by kernel_rfl)
end Ev
end
section
namespace Ev
def ydle:List Fact:=[⟨105,[.pointer (some ⟨275,0,none⟩)],276,[⟨274,160,4,yceu⟩,⟨275,107,0,[.string ywp,sc 274 42,.slice none 0 0,sv [],.slice none 0 0,.slice none 0 0,.slice none 0 0]⟩],.tuple #[],457,[⟨275,107,0,[.string ywp,.slice (some ⟨274,168,none⟩) 0 CU,sc 294 1,sv [105,110,100,101,112,101,110,100,101,110,116],sc 296 1,sc 456 2,sc 378 2]⟩,⟨294,9,1,[sv [109]]⟩,⟨296,69,6,[sv [109],ii 2,ii 0,ii 0,ii 0,ii 0]⟩,Iqb0,Iqb1,Iqb2,⟨378,9,1,[sv [108,101,97,118,101],sv [101,110,116,101,114]]⟩,Iqb3,Iqb4,Iqb5,⟨456,88,3,[sv [108,101,97,118,101],sc 347 4,sc 367 1,sv [101,110,116,101,114],sc 432 6,sc 452 1]⟩],275⟩]
theorem ycpx:yc ydle:=yc.seq ycqr (by kernel_rfl)
end Ev
end
section
namespace Ev
def ybay:Fact:=⟨6,[.string ywp],0,[],.agg #[sv [105,110,100,101,112,101,110,100,101,110,116],sc 296 1,sc 456 2],680,[⟨296,69,6,[sv [109],ii 2,ii 0,ii 0,ii 0,ii 0]⟩,Iqb0,Iqb1,Iqb2,Iqb3,Iqb4,Iqb5,⟨456,88,3,[sv [108,101,97,118,101],sc 347 4,sc 367 1,sv [101,110,116,101,114],sc 432 6,sc 452 1]⟩],0⟩
def ydkx:List Fact:=[ybay]
theorem ycnk:yc ydkx:=yc.seq (yc.append ycnv ycpx) (by kernel_rfl)
end Ev
end
section
namespace Ev
end Ev
end
end Go.Proofs.YtlbonpgkofloeaaGreatDoor
