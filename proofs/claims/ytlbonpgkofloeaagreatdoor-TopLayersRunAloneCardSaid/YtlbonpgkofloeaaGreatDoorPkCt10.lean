/- Joined. -/
import Derived.Test.YtlbonpgkofloeaaGreatDoorPkCt6
set_option linter.unusedSimpArgs false
set_option linter.unusedVariables false
set_option maxRecDepth 1000000
open Go.Proofs.Tryz renaming prog->zA
open Go
namespace Go.Proofs.YtlbonpgkofloeaaGreatDoor
section
namespace Ev
def Uqtl:List Nat:=nats 204 0xa3b29296d2e71287473726966203a20656e6f6e203f206d28203d3a2068203e2d2029296d2e71287473726966203a20656e6f6e203f206d28203d212068203a746e696f7020656c75720a3b65757274203d3a206d203e2d20296d2e7128656d6f7321202626206d21203a7265746e6520656c75720a3b65736c6166203d3a206d203e2d20296d2e7128656d6f73202626206d203a657661656c20656c75720a3b74726f70203a2068207261760a3b6c6f6f62203a206d207261760a3b72657473756c63206d6172676f7270
def yoa:ByteArray:=by8 Uqtl
def Uqtk:List (Nat×Nat×Nat×Nat):=lexT 205 Uqtl 0
def Uqlx:List Fact:=lexA 186 187 yoa 204 Uqtk
def ybos:List Value:=rowN Uqtk
def Uqb0:BlkL:=⟨611,188,2,(iiL [41,0,5,0,21,0,12,0])⟩
def Uqb1:BlkL:=⟨624,188,2,(iiL [3,0])⟩
def Uqb2:BlkL:=⟨631,132,2,[ii 0,.slice (some ⟨624,0,none⟩) 1 1]⟩
def Uqb3:BlkL:=⟨696,188,2,(iiL [41,0,19,0,5,0,19,0,21,0,12,0])⟩
def Uqb4:BlkL:=⟨709,188,2,(iiL [2,0])⟩
def Uqb5:BlkL:=⟨716,132,2,[ii 0,.slice (some ⟨709,0,none⟩) 1 1]⟩
def Uqb6:BlkL:=⟨806,188,2,(iiL [36,0,5,1,43,0,5,0,4,0,23,0,12,0])⟩
def Uqb7:BlkL:=⟨874,188,2,(iiL [43,0,5,0,4,0,23,0,12,0])⟩
def Uqb8:BlkL:=⟨883,132,2,[ii 1,sc 874 5]⟩
end Ev
end
section
namespace Ev
def ydlr:List Fact:=lg Uqlx [5,5,3,5,3,5,7,3,3,9,5,1,5,3,3,3,9,5,5,3]
theorem ycqa:yc ydlr:=yc.seq yc.nil (by kernel_rfl)
def ydnt:List Fact:=lg Uqlx [113,3,3,3]
theorem ycls:yc ydnt:=yc.seq yc.nil (by kernel_rfl)
def ydlh:List Fact:=[⟨194,[.pointer (some ⟨524,0,none⟩)],638,[⟨523,160,4,ybos⟩,⟨524,107,0,[.string yoa,.slice (some ⟨523,120,none⟩) 50 CU,sc 558 2,sv [99,108,117,115,116,101,114],sc 560 2,sc 635 1,sc 567 1]⟩,⟨558,9,1,[sv [109],sv [104]]⟩,⟨560,69,6,[sv [109],ii 2,ii 0,ii 0,ii 0,ii 0,sv [104],ii 3,ii 0,ii 0,ii 0,ii 0]⟩,⟨567,9,1,[sv [108,101,97,118,101]]⟩,Uqb0,Uqb1,Uqb2,⟨635,88,3,[sv [108,101,97,118,101],sc 611 4,sc 631 1]⟩],.tuple #[],721,[⟨524,107,0,[.string yoa,.slice (some ⟨523,188,none⟩) 33 CU,sc 558 2,sv [99,108,117,115,116,101,114],sc 560 2,sc 720 2,sc 642 2]⟩,⟨558,9,1,[sv [109],sv [104]]⟩,⟨560,69,6,[sv [109],ii 2,ii 0,ii 0,ii 0,ii 0,sv [104],ii 3,ii 0,ii 0,ii 0,ii 0]⟩,Uqb0,Uqb1,Uqb2,⟨642,9,1,[sv [108,101,97,118,101],sv [101,110,116,101,114]]⟩,Uqb3,Uqb4,Uqb5,⟨720,88,3,[sv [108,101,97,118,101],sc 611 4,sc 631 1,sv [101,110,116,101,114],sc 696 6,sc 716 1]⟩],524⟩]
theorem ycso:yc ydlh:=yc.seq yc.nil (by kernel_rfl)
def ydoq:List Fact:=[⟨237,[.pointer (some ⟨524,0,none⟩)],730,[⟨523,160,4,ybos⟩,⟨524,107,0,[.string yoa,.slice (some ⟨523,200,none⟩) 30 CU,sc 558 2,sv [99,108,117,115,116,101,114],sc 560 2,sc 720 2,sc 727 3]⟩,⟨558,9,1,[sv [109],sv [104]]⟩,⟨560,69,6,[sv [109],ii 2,ii 0,ii 0,ii 0,ii 0,sv [104],ii 3,ii 0,ii 0,ii 0,ii 0]⟩,Uqb0,Uqb1,Uqb2,Uqb3,Uqb4,Uqb5,⟨720,88,3,[sv [108,101,97,118,101],sc 611 4,sc 631 1,sv [101,110,116,101,114],sc 696 6,sc 716 1]⟩,⟨727,9,1,[sv [108,101,97,118,101],sv [101,110,116,101,114],sv [112,111,105,110,116]]⟩],sc 806 7,809,[⟨524,107,0,[.string yoa,.slice (some ⟨523,256,none⟩) 16 CU,sc 558 2,sv [99,108,117,115,116,101,114],sc 560 2,sc 720 2,sc 727 3]⟩,⟨558,9,1,[sv [109],sv [104]]⟩,⟨560,69,6,[sv [109],ii 2,ii 0,ii 0,ii 0,ii 0,sv [104],ii 3,ii 0,ii 0,ii 0,ii 0]⟩,Uqb0,Uqb1,Uqb2,Uqb3,Uqb4,Uqb5,⟨720,88,3,[sv [108,101,97,118,101],sc 611 4,sc 631 1,sv [101,110,116,101,114],sc 696 6,sc 716 1]⟩,⟨727,9,1,[sv [108,101,97,118,101],sv [101,110,116,101,114],sv [112,111,105,110,116]]⟩,Uqb6],524⟩]
theorem ycse:yc ydoq:=yc.seq yc.nil (by kernel_rfl)
def yctp:Fact:=⟨201,[.agg #[sv [112,111,105,110,116],sc 806 7,sc 883 1],.slice (some ⟨1058,0,none⟩) 2 2],1192,[Uqb6,Uqb7,Uqb8,⟨1058,3,1,(iiL [2,3])⟩],.bool true,1316,[],1192⟩
def ydok:List Fact:=[yctp]
theorem ybqx:yc ydok:=yc.seq yc.nil (by kernel_rfl)
end Ev
end
section
namespace Ev
def Uqm0:Fact:=yctp.move [806,874,883,1488] 1622
theorem yczt:ybp zA Uqm0:=ybg (yc.at_ ybqx 0 rfl) (by kernel_rfl)
def ybpy:Fact:=⟨77,[.agg #[sv [99,108,117,115,116,101,114],sc 560 2,sc 887 3]],1317,[⟨560,69,6,[sv [109],ii 2,ii 0,ii 0,ii 0,ii 0,sv [104],ii 3,ii 0,ii 0,ii 0,ii 0]⟩,Uqb0,Uqb1,Uqb2,Uqb3,Uqb4,Uqb5,Uqb6,Uqb7,Uqb8,⟨887,88,3,[sv [108,101,97,118,101],sc 611 4,sc 631 1,sv [101,110,116,101,114],sc 696 6,sc 716 1,sv [112,111,105,110,116],sc 806 7,sc 883 1]⟩],.bool true,1746,[],1317⟩
def ydoa:List Fact:=[ybpy]
theorem ybpw:yc ydoa:=yc.seq (yc.cons (f:=Uqm0) yczt yc.nil) (by kernel_rfl)
end Ev
end
section
namespace Ev
def ydng:List Fact:=[⟨103,[.string yoa],2,[],.tuple #[sc 523 80,ii 0,ii 0],524,[⟨523,160,4,ybos⟩],2⟩]
theorem ycql:yc ydng:=yc.seq (yc.append ycqa ycls) (by kernel_rfl)
def ydkt:List Fact:=[⟨194,[.pointer (some ⟨524,0,none⟩)],723,[⟨523,160,4,ybos⟩,⟨524,107,0,[.string yoa,.slice (some ⟨523,192,none⟩) 32 CU,sc 558 2,sv [99,108,117,115,116,101,114],sc 560 2,sc 720 2,sc 642 2]⟩,⟨558,9,1,[sv [109],sv [104]]⟩,⟨560,69,6,[sv [109],ii 2,ii 0,ii 0,ii 0,ii 0,sv [104],ii 3,ii 0,ii 0,ii 0,ii 0]⟩,Uqb0,Uqb1,Uqb2,⟨642,9,1,[sv [108,101,97,118,101],sv [101,110,116,101,114]]⟩,Uqb3,Uqb4,Uqb5,⟨720,88,3,[sv [108,101,97,118,101],sc 611 4,sc 631 1,sv [101,110,116,101,114],sc 696 6,sc 716 1]⟩],.tuple #[],888,[⟨524,107,0,[.string yoa,.slice (some ⟨523,320,none⟩) 0 CU,sc 558 2,sv [99,108,117,115,116,101,114],sc 560 2,sc 887 3,sc 727 3]⟩,⟨558,9,1,[sv [109],sv [104]]⟩,⟨560,69,6,[sv [109],ii 2,ii 0,ii 0,ii 0,ii 0,sv [104],ii 3,ii 0,ii 0,ii 0,ii 0]⟩,Uqb0,Uqb1,Uqb2,Uqb3,Uqb4,Uqb5,⟨727,9,1,[sv [108,101,97,118,101],sv [101,110,116,101,114],sv [112,111,105,110,116]]⟩,Uqb6,Uqb7,Uqb8,⟨887,88,3,[sv [108,101,97,118,101],sc 611 4,sc 631 1,sv [101,110,116,101,114],sc 696 6,sc 716 1,sv [112,111,105,110,116],sc 806 7,sc 883 1]⟩],524⟩]
theorem ycrm:yc ydkt:=yc.seq ycse (by kernel_rfl)
def ydlu:List Fact:=[⟨106,[.agg #[sv [99,108,117,115,116,101,114],sc 560 2,sc 887 3]],888,[⟨560,69,6,[sv [109],ii 2,ii 0,ii 0,ii 0,ii 0,sv [104],ii 3,ii 0,ii 0,ii 0,ii 0]⟩,Uqb0,Uqb1,Uqb2,Uqb3,Uqb4,Uqb5,Uqb6,Uqb7,Uqb8,⟨887,88,3,[sv [108,101,97,118,101],sc 611 4,sc 631 1,sv [101,110,116,101,114],sc 696 6,sc 716 1,sv [112,111,105,110,116],sc 806 7,sc 883 1]⟩],ii 0,1316,[],888⟩]
theorem ycnf:yc ydlu:=yc.seq ybqx (by kernel_rfl)
end Ev
end
section
namespace Ev
def ytc:Fact:=⟨6,[.string yoa],0,[],.agg #[sv [99,108,117,115,116,101,114],sc 560 2,sc 887 3],1317,[⟨560,69,6,[sv [109],ii 2,ii 0,ii 0,ii 0,ii 0,sv [104],ii 3,ii 0,ii 0,ii 0,ii 0]⟩,Uqb0,Uqb1,Uqb2,Uqb3,Uqb4,Uqb5,Uqb6,Uqb7,Uqb8,⟨887,88,3,[sv [108,101,97,118,101],sc 611 4,sc 631 1,sv [101,110,116,101,114],sc 696 6,sc 716 1,sv [112,111,105,110,116],sc 806 7,sc 883 1]⟩],0⟩
def ydnc:List Fact:=[ytc]
theorem yclb:yc ydnc:=yc.seq (yc.append ycql (yc.append ycso (yc.append ycrm ycnf))) (by kernel_rfl)
def Uqm1:Fact:=ybpy.move [560,611,624,631,696,709,716,806,874,883,887] 1318
theorem ycxi:ybp zA Uqm1:=ybg (yc.at_ ybpw 0 rfl) (by kernel_rfl)
def yblu:Fact:=⟨14,[.agg #[sv [99,108,117,115,116,101,114],sc 560 2,sc 887 3],.int .u32 1],1317,[⟨560,69,6,[sv [109],ii 2,ii 0,ii 0,ii 0,ii 0,sv [104],ii 3,ii 0,ii 0,ii 0,ii 0]⟩,Uqb0,Uqb1,Uqb2,Uqb3,Uqb4,Uqb5,Uqb6,Uqb7,Uqb8,⟨887,88,3,[sv [108,101,97,118,101],sc 611 4,sc 631 1,sv [101,110,116,101,114],sc 696 6,sc 716 1,sv [112,111,105,110,116],sc 806 7,sc 883 1]⟩],.bool true,1848,[],1317⟩
def yddj:List Fact:=[yblu]
theorem ycbr:yc yddj:=yc.seq (yc.cons (f:=Uqm1) ycxi yc.nil) (by kernel_rfl)
end Ev
end
section
namespace Ev
end Ev
end
end Go.Proofs.YtlbonpgkofloeaaGreatDoor
