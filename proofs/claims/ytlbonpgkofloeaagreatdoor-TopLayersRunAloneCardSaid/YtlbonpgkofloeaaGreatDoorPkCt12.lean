/- Joined. -/
import Derived.Test.YtlbonpgkofloeaaGreatDoorPkCt6
set_option linter.unusedSimpArgs false
set_option linter.unusedVariables false
set_option maxRecDepth 1000000
open Go.Proofs.Tryz renaming prog->zA
open Go
namespace Go.Proofs.YtlbonpgkofloeaaGreatDoor
section
namespace Ev
def Xqtl:List Nat:=nats 469 0xa3b2930203a20782e71203f2070203d3d2071286d7573203d3a2078203e2d202978203d3d20782e71207c7c206b6361622e71203d2120702e71286c6c61202626202978203d2120782e712026262070203d3d207128656d6f7320262620746f6f7221203a79706f6320656c75720a3b342025202931202b207828203d3a2078203e2d202978203d3d20782e71207c7c206b6361622e71203d2120702e71286c6c6120262620746f6f72203a6b63697420656c75720a3b2929642e71286e696d203d3d20642e71287473726966203d3a2070202c296e203a2031202b2029642e71286e696d203f206e203c2029642e71286e696d28203d3a2064203e2d20200a292929642e71286e696d203d3d20642e71287473726966203d212070207c7c20296e203a2031202b2029642e71286e696d203f206e203c2029642e71286e696d28203d2120642820262620746f6f7221203a776f6c20656c75720a3b656e6f6e203d3a2070202c30203d3a2064203e2d2029656e6f6e203d212070207c7c2030203d2120642820262620746f6f72203a706f7420656c75720a3b33202e2e2030203a2078207261760a3b74726f70203a2070207261760a3b6e202e2e2030203a2064207261760a3b6b636f6c63206d6172676f7270
def yem:ByteArray:=by8 Xqtl
def Xqtk:List (Nat×Nat×Nat×Nat):=lexT 470 Xqtl 0
def Xqlx:List Fact:=lexA 186 187 yem 469 Xqtk
def ymp:List Value:=rowN Xqtk
def ygs:List Value:=(iiL [41,0,19,0,10,0,42,0,36,0,5,0,43,0,37,0,24,0,12,0,6,0,33,0,24,0,12,0,1,1,6,0,36,0,5,1,23,0,35,0,12,0,24,0,12,0])
def Xqb0:BlkL:=⟨1552,188,2,(iiL [41,0,10,0,42,0,36,0,5,0,1,0,36,0,5,1,4,0])⟩
def Xqb1:BlkL:=⟨1564,188,2,(iiL [1,0])⟩
def Xqb2:BlkL:=⟨1582,188,2,(iiL [4,0])⟩
def Xqb3:BlkL:=⟨1589,132,2,[ii 0,.slice (some ⟨1564,0,none⟩) 1 1,ii 1,.slice (some ⟨1582,0,none⟩) 1 1]⟩
def Xqb4:BlkL:=⟨1939,188,2,(iiL [43,0,37,0,24,0,12,0,6,0,33,0,24,0,12,0,1,1,6,0])⟩
def Xqb5:BlkL:=⟨2011,188,2,(iiL [23,0,35,0,12,0,24,0,12,0])⟩
def Xqb6:BlkL:=⟨2018,132,2,[ii 0,sc 1939 10,ii 1,sc 2011 5]⟩
def Xqb7:BlkL:=⟨2120,188,2,(iiL [41,0,10,0,20,0,42,0,36,0,12,1,17,0,35,0,12,2,5,2])⟩
def Xqb8:BlkL:=⟨2164,188,2,(iiL [32,0,33,0,5,2,1,1,1,4])⟩
def Xqb9:BlkL:=⟨2171,132,2,[ii 2,sc 2164 5]⟩
def ybed:BlkL:=⟨2351,188,2,(iiL [41,0,41,0,19,0,10,0,21,0,41,0,35,0,11,0,5,1,36,0,12,2,5,2,20,0,42,0,36,0,12,1,17,0,35,0,12,2,5,2])⟩
def ybev:BlkL:=⟨2422,188,2,(iiL [26,0,43,0,35,0,11,0,5,1,12,2,1,0])⟩
def ybfx:BlkL:=⟨2429,132,2,[ii 2,sc 2422 7]⟩
def ycjq:BlkL:=⟨3016,3,1,(iiL [1,3,1])⟩
end Ev
end
section
namespace Ev
def ybxn:Fact:=⟨199,[.agg #[sv [108,111,119],sc 1829 23,sc 2018 2],ii 3],2523,[⟨1829,188,2,ygs⟩,Xqb4,Xqb5,Xqb6],.bool true,2755,[],2523⟩
def ydik:List Fact:=[ybxn]
theorem ybgi:yc ydik:=yc.seq yc.nil (by kernel_rfl)
def ycbm:Fact:=⟨199,[.agg #[sv [99,111,112,121],sc 2351 20,sc 2429 1],ii 3],2850,[ybed,ybev,ybfx],.bool true,3015,[],2850⟩
def ydbx:List Fact:=[ycbm]
theorem ybhx:yc ydbx:=yc.seq yc.nil (by kernel_rfl)
def ydbw:List Fact:=[⟨241,[sc 1829 23,.slice (some ⟨3016,0,none⟩) 3 3,.bool false],3139,[⟨1829,188,2,ygs⟩,ycjq],.tuple (iiA [2,0]),3370,[],3139⟩]
theorem ycbd:yc ydbw:=yc.seq yc.nil (by kernel_rfl)
def ycbo:Fact:=⟨201,[.agg #[sv [99,111,112,121],sc 2351 20,sc 2429 1],.slice (some ⟨3016,0,none⟩) 3 3],3680,[ybed,ybev,ybfx,ycjq],.bool true,3954,[],3680⟩
def yddo:List Fact:=[ycbo]
theorem ybgu:yc yddo:=yc.seq yc.nil (by kernel_rfl)
end Ev
end
section
namespace Ev
def ycbw:Fact:=⟨201,[.agg #[sv [108,111,119],sc 1829 23,sc 2018 2],.slice (some ⟨3016,0,none⟩) 3 3],3138,[⟨1829,188,2,ygs⟩,Xqb4,Xqb5,Xqb6,ycjq],.bool true,3524,[],3138⟩
def ycix:Fact:=⟨201,[.agg #[sv [116,105,99,107],sc 2120 10,sc 2171 1],.slice (some ⟨3016,0,none⟩) 3 3],3525,[Xqb7,Xqb8,Xqb9,ycjq],.bool true,3679,[],3525⟩
def ydih:List Fact:=[ycbw,ycix]
theorem yvt:yc ydih:=yc.seq ycbd (by kernel_rfl)
end Ev
end
section
namespace Ev
def Xqm0:Fact:=ybxn.move [1829,1939,2011,2018] 4045
theorem ycwg:ybp zA Xqm0:=ybg (yc.at_ ybgi 0 rfl) (by kernel_rfl)
def Xqm1:Fact:=ycbm.move [2351,2422,2429] 4372
theorem ydax:ybp zA Xqm1:=ybg (yc.at_ ybhx 0 rfl) (by kernel_rfl)
def Xqm2:Fact:=ycbw.move [1829,1939,2011,2018,4538] 4660
theorem yczd:ybp zA Xqm2:=ybg (yc.at_ yvt 0 rfl) (by kernel_rfl)
def Xqm3:Fact:=ycix.move [2120,2164,2171,4538] 5047
theorem ydam:ybp zA Xqm3:=ybg (yc.at_ yvt 1 rfl) (by kernel_rfl)
def Xqm4:Fact:=ycbo.move [2351,2422,2429,4538] 5202
theorem ycxf:ybp zA Xqm4:=ybg (yc.at_ ybgu 0 rfl) (by kernel_rfl)
def ybcr:Fact:=⟨77,[.agg #[sv [99,108,111,99,107],sc 1473 3,sc 2433 4]],3955,[⟨1473,69,6,[sv [100],ii 1,ii 0,ii 0,ii 1,ii 0,sv [112],ii 3,ii 0,ii 0,ii 0,ii 0,sv [120],ii 1,ii 0,ii 3,ii 0,ii 0]⟩,Xqb0,Xqb1,Xqb2,Xqb3,⟨1829,188,2,ygs⟩,Xqb4,Xqb5,Xqb6,Xqb7,Xqb8,Xqb9,ybed,ybev,ybfx,⟨2433,88,3,[sv [116,111,112],sc 1552 9,sc 1589 2,sv [108,111,119],sc 1829 23,sc 2018 2,sv [116,105,99,107],sc 2120 10,sc 2171 1,sv [99,111,112,121],sc 2351 20,sc 2429 1]⟩],.bool true,5476,[],3955⟩
def ydfu:List Fact:=[ybcr]
theorem ybfc:yc ydfu:=yc.seq (yc.append (yc.cons (f:=Xqm0) ycwg yc.nil) (yc.append (yc.cons (f:=Xqm1) ydax yc.nil) (yc.append (yc.cons (f:=Xqm2) yczd yc.nil) (yc.append (yc.cons (f:=Xqm3) ydam yc.nil) (yc.cons (f:=Xqm4) ycxf yc.nil))))) (by kernel_rfl)
end Ev
end
section
namespace Ev
def ydjw:List Fact:=lg Xqlx [333,1,1,1,1,1,1,1,1,1,1,1,1,1,1,1,1,1,1,1]
theorem ycra:yc ydjw:=yc.seq yc.nil (by kernel_rfl)
def ydkg:List Fact:=lg Xqlx [373,1,1,1,1,1,1,1,1,1,1,1,1,1,1,1,1,1,1,1]
theorem yctc:yc ydkg:=yc.seq yc.nil (by kernel_rfl)
def ydmy:List Fact:=lg Xqlx [413,1,1,1,1,1,1,1,1,1]
theorem ycpo:yc ydmy:=yc.seq yc.nil (by kernel_rfl)
def ydin:List Fact:=[⟨237,[.pointer (some ⟨1414,0,none⟩)],1483,[⟨1413,160,4,ymp⟩,⟨1414,107,0,[.string yem,.slice (some ⟨1413,100,none⟩) 191 CU,sc 1471 3,sv [99,108,111,99,107],sc 1473 3,.slice none 0 0,sc 1480 1]⟩,⟨1471,9,1,[sv [100],sv [112],sv [120]]⟩,⟨1473,69,6,[sv [100],ii 1,ii 0,ii 0,ii 1,ii 0,sv [112],ii 3,ii 0,ii 0,ii 0,ii 0,sv [120],ii 1,ii 0,ii 3,ii 0,ii 0]⟩,⟨1480,9,1,[sv [116,111,112]]⟩],sc 1552 9,1555,[⟨1414,107,0,[.string yem,.slice (some ⟨1413,144,none⟩) 180 CU,sc 1471 3,sv [99,108,111,99,107],sc 1473 3,.slice none 0 0,sc 1480 1]⟩,⟨1471,9,1,[sv [100],sv [112],sv [120]]⟩,⟨1473,69,6,[sv [100],ii 1,ii 0,ii 0,ii 1,ii 0,sv [112],ii 3,ii 0,ii 0,ii 0,ii 0,sv [120],ii 1,ii 0,ii 3,ii 0,ii 0]⟩,⟨1480,9,1,[sv [116,111,112]]⟩,Xqb0],1414⟩]
theorem ycci:yc ydin:=yc.seq yc.nil (by kernel_rfl)
def ydbl:List Fact:=[⟨264,[.pointer (some ⟨1414,0,none⟩),ii 4],1630,[⟨1413,160,4,ymp⟩,⟨1414,107,0,[.string yem,.slice (some ⟨1413,216,none⟩) 162 CU,sc 1471 3,sv [99,108,111,99,107],sc 1473 3,sc 1593 1,sc 1600 2]⟩,⟨1471,9,1,[sv [100],sv [112],sv [120]]⟩,⟨1473,69,6,[sv [100],ii 1,ii 0,ii 0,ii 1,ii 0,sv [112],ii 3,ii 0,ii 0,ii 0,ii 0,sv [120],ii 1,ii 0,ii 3,ii 0,ii 0]⟩,Xqb0,Xqb1,Xqb2,Xqb3,⟨1593,88,3,[sv [116,111,112],sc 1552 9,sc 1589 2]⟩,⟨1600,9,1,[sv [116,111,112],sv [108,111,119]]⟩],sc 1730 10,1735,[⟨1414,107,0,[.string yem,.slice (some ⟨1413,300,none⟩) 141 CU,sc 1471 3,sv [99,108,111,99,107],sc 1473 3,sc 1593 1,sc 1600 2]⟩,⟨1471,9,1,[sv [100],sv [112],sv [120]]⟩,⟨1473,69,6,[sv [100],ii 1,ii 0,ii 0,ii 1,ii 0,sv [112],ii 3,ii 0,ii 0,ii 0,ii 0,sv [120],ii 1,ii 0,ii 3,ii 0,ii 0]⟩,Xqb0,Xqb1,Xqb2,Xqb3,⟨1593,88,3,[sv [116,111,112],sc 1552 9,sc 1589 2]⟩,⟨1600,9,1,[sv [116,111,112],sv [108,111,119]]⟩,⟨1730,188,2,(iiL [43,0,37,0,24,0,12,0,6,0,33,0,24,0,12,0,1,1,6,0])⟩],1414⟩]
theorem ycaf:yc ydbl:=yc.seq yc.nil (by kernel_rfl)
end Ev
end
section
namespace Ev
def ydcw:List Fact:=[⟨264,[.pointer (some ⟨1414,0,none⟩),ii 2],1839,[⟨1413,160,4,ymp⟩,⟨1414,107,0,[.string yem,.slice (some ⟨1413,380,none⟩) 121 CU,sc 1471 3,sv [99,108,111,99,107],sc 1473 3,sc 1593 1,sc 1600 2]⟩,⟨1471,9,1,[sv [100],sv [112],sv [120]]⟩,⟨1473,69,6,[sv [100],ii 1,ii 0,ii 0,ii 1,ii 0,sv [112],ii 3,ii 0,ii 0,ii 0,ii 0,sv [120],ii 1,ii 0,ii 3,ii 0,ii 0]⟩,Xqb0,Xqb1,Xqb2,Xqb3,⟨1593,88,3,[sv [116,111,112],sc 1552 9,sc 1589 2]⟩,⟨1600,9,1,[sv [116,111,112],sv [108,111,119]]⟩],sc 1939 10,1946,[⟨1414,107,0,[.string yem,.slice (some ⟨1413,464,none⟩) 100 CU,sc 1471 3,sv [99,108,111,99,107],sc 1473 3,sc 1593 1,sc 1600 2]⟩,⟨1471,9,1,[sv [100],sv [112],sv [120]]⟩,⟨1473,69,6,[sv [100],ii 1,ii 0,ii 0,ii 1,ii 0,sv [112],ii 3,ii 0,ii 0,ii 0,ii 0,sv [120],ii 1,ii 0,ii 3,ii 0,ii 0]⟩,Xqb0,Xqb1,Xqb2,Xqb3,⟨1593,88,3,[sv [116,111,112],sc 1552 9,sc 1589 2]⟩,⟨1600,9,1,[sv [116,111,112],sv [108,111,119]]⟩,Xqb4],1414⟩]
theorem ycap:yc ydcw:=yc.seq yc.nil (by kernel_rfl)
def ydet:List Fact:=[⟨237,[.pointer (some ⟨1414,0,none⟩)],2032,[⟨1413,160,4,ymp⟩,⟨1414,107,0,[.string yem,.slice (some ⟨1413,544,none⟩) 80 CU,sc 1471 3,sv [99,108,111,99,107],sc 1473 3,sc 2022 2,sc 2029 3]⟩,⟨1471,9,1,[sv [100],sv [112],sv [120]]⟩,⟨1473,69,6,[sv [100],ii 1,ii 0,ii 0,ii 1,ii 0,sv [112],ii 3,ii 0,ii 0,ii 0,ii 0,sv [120],ii 1,ii 0,ii 3,ii 0,ii 0]⟩,Xqb0,Xqb1,Xqb2,Xqb3,⟨1829,188,2,ygs⟩,Xqb4,Xqb5,Xqb6,⟨2022,88,3,[sv [116,111,112],sc 1552 9,sc 1589 2,sv [108,111,119],sc 1829 23,sc 2018 2]⟩,⟨2029,9,1,[sv [116,111,112],sv [108,111,119],sv [116,105,99,107]]⟩],sc 2120 10,2123,[⟨1414,107,0,[.string yem,.slice (some ⟨1413,616,none⟩) 62 CU,sc 1471 3,sv [99,108,111,99,107],sc 1473 3,sc 2022 2,sc 2029 3]⟩,⟨1471,9,1,[sv [100],sv [112],sv [120]]⟩,⟨1473,69,6,[sv [100],ii 1,ii 0,ii 0,ii 1,ii 0,sv [112],ii 3,ii 0,ii 0,ii 0,ii 0,sv [120],ii 1,ii 0,ii 3,ii 0,ii 0]⟩,Xqb0,Xqb1,Xqb2,Xqb3,⟨1829,188,2,ygs⟩,Xqb4,Xqb5,Xqb6,⟨2022,88,3,[sv [116,111,112],sc 1552 9,sc 1589 2,sv [108,111,119],sc 1829 23,sc 2018 2]⟩,⟨2029,9,1,[sv [116,111,112],sv [108,111,119],sv [116,105,99,107]]⟩,Xqb7],1414⟩]
theorem ycgw:yc ydet:=yc.seq yc.nil (by kernel_rfl)
def ydbk:List Fact:=[⟨264,[.pointer (some ⟨1414,0,none⟩),ii 3],2273,[⟨1413,160,4,ymp⟩,⟨1414,107,0,[.string yem,.slice (some ⟨1413,736,none⟩) 32 CU,sc 1471 3,sv [99,108,111,99,107],sc 1473 3,sc 2175 3,sc 2182 4]⟩,⟨1471,9,1,[sv [100],sv [112],sv [120]]⟩,⟨1473,69,6,[sv [100],ii 1,ii 0,ii 0,ii 1,ii 0,sv [112],ii 3,ii 0,ii 0,ii 0,ii 0,sv [120],ii 1,ii 0,ii 3,ii 0,ii 0]⟩,Xqb0,Xqb1,Xqb2,Xqb3,⟨1829,188,2,ygs⟩,Xqb4,Xqb5,Xqb6,Xqb7,Xqb8,Xqb9,⟨2175,88,3,[sv [116,111,112],sc 1552 9,sc 1589 2,sv [108,111,119],sc 1829 23,sc 2018 2,sv [116,105,99,107],sc 2120 10,sc 2171 1]⟩,⟨2182,9,1,[sv [116,111,112],sv [108,111,119],sv [116,105,99,107],sv [99,111,112,121]]⟩],sc 2344 8,2348,[⟨1414,107,0,[.string yem,.slice (some ⟨1413,800,none⟩) 16 CU,sc 1471 3,sv [99,108,111,99,107],sc 1473 3,sc 2175 3,sc 2182 4]⟩,⟨1471,9,1,[sv [100],sv [112],sv [120]]⟩,⟨1473,69,6,[sv [100],ii 1,ii 0,ii 0,ii 1,ii 0,sv [112],ii 3,ii 0,ii 0,ii 0,ii 0,sv [120],ii 1,ii 0,ii 3,ii 0,ii 0]⟩,Xqb0,Xqb1,Xqb2,Xqb3,⟨1829,188,2,ygs⟩,Xqb4,Xqb5,Xqb6,Xqb7,Xqb8,Xqb9,⟨2175,88,3,[sv [116,111,112],sc 1552 9,sc 1589 2,sv [108,111,119],sc 1829 23,sc 2018 2,sv [116,105,99,107],sc 2120 10,sc 2171 1]⟩,⟨2182,9,1,[sv [116,111,112],sv [108,111,119],sv [116,105,99,107],sv [99,111,112,121]]⟩,⟨2344,188,2,(iiL [20,0,42,0,36,0,12,1,17,0,35,0,12,2,5,2])⟩],1414⟩]
theorem ycdd:yc ydbk:=yc.seq yc.nil (by kernel_rfl)
end Ev
end
section
namespace Ev
def yddh:List Fact:=[⟨79,[.agg #[sv [108,111,119],sc 1829 23,sc 2018 2]],5571,[⟨1829,188,2,ygs⟩,Xqb4,Xqb5,Xqb6],.int .u32 3,5840,[],5571⟩]
theorem ychl:yc yddh:=yc.seq yc.nil (by kernel_rfl)
end Ev
end
section
namespace Ev
def ydor:List Fact:=lg Xqlx [1,1,1,1,3,1,1,1,1,1,3,1,1,1,3,1,1,1,1,1]
theorem ycsw:yc ydor:=yc.seq yc.nil (by kernel_rfl)
def ydlq:List Fact:=lg Xqlx [47,1,1,1,1,3,1,1,3,1,1,1,3,1,1,3,1,1,1,1]
theorem ycjt:yc ydlq:=yc.seq yc.nil (by kernel_rfl)
def ydkq:List Fact:=lg Xqlx [95,1,1,1,1,3,1,1,1,3,3,1,3,1,1,3,3,1,1,1]
theorem yckc:yc ydkq:=yc.seq yc.nil (by kernel_rfl)
def ydmt:List Fact:=lg Xqlx [149,1,3,1,1,1,1,1,1,1,1,1,1,1,1,1,1,1,1,1]
theorem ycpz:yc ydmt:=yc.seq yc.nil (by kernel_rfl)
def ydnu:List Fact:=lg Xqlx [191,1,1,1,1,1,1,1,1,1,1,1,1,1,1,1,1,1,1,1]
theorem ycob:yc ydnu:=yc.seq yc.nil (by kernel_rfl)
def ydls:List Fact:=lg Xqlx [231,1,1,1,1,1,3,3,1,1,3,3,1,1,1,1,1,1,1,1]
theorem ycom:yc ydls:=yc.seq yc.nil (by kernel_rfl)
def ydkp:List Fact:=lg Xqlx [279,3,3,3,1,1,3,3,3,1,3,1,1,1,1,1,1,1,1,1]
theorem ycne:yc ydkp:=yc.seq yc.nil (by kernel_rfl)
end Ev
end
section
namespace Ev
def ydff:List Fact:=[⟨103,[.string yem],2,[],.tuple #[sc 1413 216,ii 0,ii 0],1414,[⟨1413,160,4,ymp⟩],2⟩]
theorem ycay:yc ydff:=yc.one (yu.cons (n:=143) ycsw (yu.cons (n:=299) ycjt (yu.cons (n:=470) yckc (yu.cons (n:=615) ycpz (yu.cons (n:=747) ycob (yu.cons (n:=904) ycom (yu.cons (n:=1081) ycne (yu.cons (n:=1211) ycra (yu.cons (n:=1342) yctc (yu.cons (n:=1407) ycpo yu.nil)))))))))) (by kernel_rfl)
def ydgw:List Fact:=[⟨264,[.pointer (some ⟨1414,0,none⟩),ii 3],1618,[⟨1413,160,4,ymp⟩,⟨1414,107,0,[.string yem,.slice (some ⟨1413,204,none⟩) 165 CU,sc 1471 3,sv [99,108,111,99,107],sc 1473 3,sc 1593 1,sc 1600 2]⟩,⟨1471,9,1,[sv [100],sv [112],sv [120]]⟩,⟨1473,69,6,[sv [100],ii 1,ii 0,ii 0,ii 1,ii 0,sv [112],ii 3,ii 0,ii 0,ii 0,ii 0,sv [120],ii 1,ii 0,ii 3,ii 0,ii 0]⟩,Xqb0,Xqb1,Xqb2,Xqb3,⟨1593,88,3,[sv [116,111,112],sc 1552 9,sc 1589 2]⟩,⟨1600,9,1,[sv [116,111,112],sv [108,111,119]]⟩],sc 1819 20,1826,[⟨1414,107,0,[.string yem,.slice (some ⟨1413,368,none⟩) 124 CU,sc 1471 3,sv [99,108,111,99,107],sc 1473 3,sc 1593 1,sc 1600 2]⟩,⟨1471,9,1,[sv [100],sv [112],sv [120]]⟩,⟨1473,69,6,[sv [100],ii 1,ii 0,ii 0,ii 1,ii 0,sv [112],ii 3,ii 0,ii 0,ii 0,ii 0,sv [120],ii 1,ii 0,ii 3,ii 0,ii 0]⟩,Xqb0,Xqb1,Xqb2,Xqb3,⟨1593,88,3,[sv [116,111,112],sc 1552 9,sc 1589 2]⟩,⟨1600,9,1,[sv [116,111,112],sv [108,111,119]]⟩,⟨1819,188,2,(iiL [42,0,36,0,5,0,43,0,37,0,24,0,12,0,6,0,33,0,24,0,12,0,1,1,6,0,36,0,5,1,23,0,35,0,12,0,24,0,12,0])⟩],1414⟩]
theorem ybxv:yc ydgw:=yc.seq ycaf (by kernel_rfl)
def ydeu:List Fact:=[⟨237,[.pointer (some ⟨1414,0,none⟩)],2185,[⟨1413,160,4,ymp⟩,⟨1414,107,0,[.string yem,.slice (some ⟨1413,672,none⟩) 48 CU,sc 1471 3,sv [99,108,111,99,107],sc 1473 3,sc 2175 3,sc 2182 4]⟩,⟨1471,9,1,[sv [100],sv [112],sv [120]]⟩,⟨1473,69,6,[sv [100],ii 1,ii 0,ii 0,ii 1,ii 0,sv [112],ii 3,ii 0,ii 0,ii 0,ii 0,sv [120],ii 1,ii 0,ii 3,ii 0,ii 0]⟩,Xqb0,Xqb1,Xqb2,Xqb3,⟨1829,188,2,ygs⟩,Xqb4,Xqb5,Xqb6,Xqb7,Xqb8,Xqb9,⟨2175,88,3,[sv [116,111,112],sc 1552 9,sc 1589 2,sv [108,111,119],sc 1829 23,sc 2018 2,sv [116,105,99,107],sc 2120 10,sc 2171 1]⟩,⟨2182,9,1,[sv [116,111,112],sv [108,111,119],sv [116,105,99,107],sv [99,111,112,121]]⟩],sc 2351 20,2354,[⟨1414,107,0,[.string yem,.slice (some ⟨1413,800,none⟩) 16 CU,sc 1471 3,sv [99,108,111,99,107],sc 1473 3,sc 2175 3,sc 2182 4]⟩,⟨1471,9,1,[sv [100],sv [112],sv [120]]⟩,⟨1473,69,6,[sv [100],ii 1,ii 0,ii 0,ii 1,ii 0,sv [112],ii 3,ii 0,ii 0,ii 0,ii 0,sv [120],ii 1,ii 0,ii 3,ii 0,ii 0]⟩,Xqb0,Xqb1,Xqb2,Xqb3,⟨1829,188,2,ygs⟩,Xqb4,Xqb5,Xqb6,Xqb7,Xqb8,Xqb9,⟨2175,88,3,[sv [116,111,112],sc 1552 9,sc 1589 2,sv [108,111,119],sc 1829 23,sc 2018 2,sv [116,105,99,107],sc 2120 10,sc 2171 1]⟩,⟨2182,9,1,[sv [116,111,112],sv [108,111,119],sv [116,105,99,107],sv [99,111,112,121]]⟩,ybed],1414⟩]
theorem ycht:yc ydeu:=yc.seq ycdd (by kernel_rfl)
end Ev
end
section
namespace Ev
def ydgn:List Fact:=[⟨194,[.pointer (some ⟨1414,0,none⟩)],1596,[⟨1413,160,4,ymp⟩,⟨1414,107,0,[.string yem,.slice (some ⟨1413,184,none⟩) 170 CU,sc 1471 3,sv [99,108,111,99,107],sc 1473 3,sc 1593 1,sc 1480 1]⟩,⟨1471,9,1,[sv [100],sv [112],sv [120]]⟩,⟨1473,69,6,[sv [100],ii 1,ii 0,ii 0,ii 1,ii 0,sv [112],ii 3,ii 0,ii 0,ii 0,ii 0,sv [120],ii 1,ii 0,ii 3,ii 0,ii 0]⟩,⟨1480,9,1,[sv [116,111,112]]⟩,Xqb0,Xqb1,Xqb2,Xqb3,⟨1593,88,3,[sv [116,111,112],sc 1552 9,sc 1589 2]⟩],.tuple #[],2023,[⟨1414,107,0,[.string yem,.slice (some ⟨1413,532,none⟩) 83 CU,sc 1471 3,sv [99,108,111,99,107],sc 1473 3,sc 2022 2,sc 1600 2]⟩,⟨1471,9,1,[sv [100],sv [112],sv [120]]⟩,⟨1473,69,6,[sv [100],ii 1,ii 0,ii 0,ii 1,ii 0,sv [112],ii 3,ii 0,ii 0,ii 0,ii 0,sv [120],ii 1,ii 0,ii 3,ii 0,ii 0]⟩,Xqb0,Xqb1,Xqb2,Xqb3,⟨1600,9,1,[sv [116,111,112],sv [108,111,119]]⟩,⟨1829,188,2,ygs⟩,Xqb4,Xqb5,Xqb6,⟨2022,88,3,[sv [116,111,112],sc 1552 9,sc 1589 2,sv [108,111,119],sc 1829 23,sc 2018 2]⟩],1414⟩]
theorem ycjl:yc ydgn:=yc.seq (yc.append ybxv ycap) (by kernel_rfl)
def ydcf:List Fact:=[⟨194,[.pointer (some ⟨1414,0,none⟩)],2178,[⟨1413,160,4,ymp⟩,⟨1414,107,0,[.string yem,.slice (some ⟨1413,664,none⟩) 50 CU,sc 1471 3,sv [99,108,111,99,107],sc 1473 3,sc 2175 3,sc 2029 3]⟩,⟨1471,9,1,[sv [100],sv [112],sv [120]]⟩,⟨1473,69,6,[sv [100],ii 1,ii 0,ii 0,ii 1,ii 0,sv [112],ii 3,ii 0,ii 0,ii 0,ii 0,sv [120],ii 1,ii 0,ii 3,ii 0,ii 0]⟩,Xqb0,Xqb1,Xqb2,Xqb3,⟨1829,188,2,ygs⟩,Xqb4,Xqb5,Xqb6,⟨2029,9,1,[sv [116,111,112],sv [108,111,119],sv [116,105,99,107]]⟩,Xqb7,Xqb8,Xqb9,⟨2175,88,3,[sv [116,111,112],sc 1552 9,sc 1589 2,sv [108,111,119],sc 1829 23,sc 2018 2,sv [116,105,99,107],sc 2120 10,sc 2171 1]⟩],.tuple #[],2434,[⟨1414,107,0,[.string yem,.slice (some ⟨1413,864,none⟩) 0 CU,sc 1471 3,sv [99,108,111,99,107],sc 1473 3,sc 2433 4,sc 2182 4]⟩,⟨1471,9,1,[sv [100],sv [112],sv [120]]⟩,⟨1473,69,6,[sv [100],ii 1,ii 0,ii 0,ii 1,ii 0,sv [112],ii 3,ii 0,ii 0,ii 0,ii 0,sv [120],ii 1,ii 0,ii 3,ii 0,ii 0]⟩,Xqb0,Xqb1,Xqb2,Xqb3,⟨1829,188,2,ygs⟩,Xqb4,Xqb5,Xqb6,Xqb7,Xqb8,Xqb9,⟨2182,9,1,[sv [116,111,112],sv [108,111,119],sv [116,105,99,107],sv [99,111,112,121]]⟩,ybed,ybev,ybfx,⟨2433,88,3,[sv [116,111,112],sc 1552 9,sc 1589 2,sv [108,111,119],sc 1829 23,sc 2018 2,sv [116,105,99,107],sc 2120 10,sc 2171 1,sv [99,111,112,121],sc 2351 20,sc 2429 1]⟩],1414⟩]
theorem ycez:yc ydcf:=yc.seq ycht (by kernel_rfl)
def ydfl:List Fact:=[⟨106,[.agg #[sv [99,108,111,99,107],sc 1473 3,sc 2433 4]],2434,[⟨1473,69,6,[sv [100],ii 1,ii 0,ii 0,ii 1,ii 0,sv [112],ii 3,ii 0,ii 0,ii 0,ii 0,sv [120],ii 1,ii 0,ii 3,ii 0,ii 0]⟩,Xqb0,Xqb1,Xqb2,Xqb3,⟨1829,188,2,ygs⟩,Xqb4,Xqb5,Xqb6,Xqb7,Xqb8,Xqb9,ybed,ybev,ybfx,⟨2433,88,3,[sv [116,111,112],sc 1552 9,sc 1589 2,sv [108,111,119],sc 1829 23,sc 2018 2,sv [116,105,99,107],sc 2120 10,sc 2171 1,sv [99,111,112,121],sc 2351 20,sc 2429 1]⟩],ii 0,3954,[],2434⟩]
theorem ycit:yc ydfl:=yc.seq (yc.append ybgi (yc.append ybhx (yc.append yvt ybgu))) (by kernel_rfl)
end Ev
end
section
namespace Ev
def ydgz:List Fact:=[⟨192,[.pointer (some ⟨1414,0,none⟩),sv [114,117,108,101],ii 12,.func (.func 194) #[.pointer (some ⟨1414,0,none⟩)] #[]],1474,[⟨1413,160,4,ymp⟩,⟨1414,107,0,[.string yem,.slice (some ⟨1413,88,none⟩) 194 CU,sc 1471 3,sv [99,108,111,99,107],sc 1473 3,.slice none 0 0,.slice none 0 0]⟩,⟨1471,9,1,[sv [100],sv [112],sv [120]]⟩,⟨1473,69,6,[sv [100],ii 1,ii 0,ii 0,ii 1,ii 0,sv [112],ii 3,ii 0,ii 0,ii 0,ii 0,sv [120],ii 1,ii 0,ii 3,ii 0,ii 0]⟩],.tuple #[],2434,[⟨1414,107,0,[.string yem,.slice (some ⟨1413,864,none⟩) 0 CU,sc 1471 3,sv [99,108,111,99,107],sc 1473 3,sc 2433 4,sc 2182 4]⟩,⟨1471,9,1,[sv [100],sv [112],sv [120]]⟩,⟨1473,69,6,[sv [100],ii 1,ii 0,ii 0,ii 1,ii 0,sv [112],ii 3,ii 0,ii 0,ii 0,ii 0,sv [120],ii 1,ii 0,ii 3,ii 0,ii 0]⟩,Xqb0,Xqb1,Xqb2,Xqb3,⟨1829,188,2,ygs⟩,Xqb4,Xqb5,Xqb6,Xqb7,Xqb8,Xqb9,⟨2182,9,1,[sv [116,111,112],sv [108,111,119],sv [116,105,99,107],sv [99,111,112,121]]⟩,ybed,ybev,ybfx,⟨2433,88,3,[sv [116,111,112],sc 1552 9,sc 1589 2,sv [108,111,119],sc 1829 23,sc 2018 2,sv [116,105,99,107],sc 2120 10,sc 2171 1,sv [99,111,112,121],sc 2351 20,sc 2429 1]⟩],1414⟩]
theorem ycgb:yc ydgz:=yc.seq (yc.append ycci (yc.append ycjl (yc.append ycgw ycez))) (by kernel_rfl)
def Xqm5:Fact:=ybcr.move [1473,1552,1564,1582,1589,1829,1939,2011,2018,2120,2164,2171,2351,2422,2429,2433] 3956
theorem ycvg:ybp zA Xqm5:=ybg (yc.at_ ybfc 0 rfl) (by kernel_rfl)
def ybly:Fact:=⟨14,[.agg #[sv [99,108,111,99,107],sc 1473 3,sc 2433 4],.int .u32 3],3955,[⟨1473,69,6,[sv [100],ii 1,ii 0,ii 0,ii 1,ii 0,sv [112],ii 3,ii 0,ii 0,ii 0,ii 0,sv [120],ii 1,ii 0,ii 3,ii 0,ii 0]⟩,Xqb0,Xqb1,Xqb2,Xqb3,⟨1829,188,2,ygs⟩,Xqb4,Xqb5,Xqb6,Xqb7,Xqb8,Xqb9,ybed,ybev,ybfx,⟨2433,88,3,[sv [116,111,112],sc 1552 9,sc 1589 2,sv [108,111,119],sc 1829 23,sc 2018 2,sv [116,105,99,107],sc 2120 10,sc 2171 1,sv [99,111,112,121],sc 2351 20,sc 2429 1]⟩],.bool true,5846,[],3955⟩
def ydij:List Fact:=[ybly]
theorem ycgi:yc ydij:=yc.seq (yc.append (yc.cons (f:=Xqm5) ycvg yc.nil) ychl) (by kernel_rfl)
end Ev
end
section
namespace Ev
def yma:Fact:=⟨6,[.string yem],0,[],.agg #[sv [99,108,111,99,107],sc 1473 3,sc 2433 4],3955,[⟨1473,69,6,[sv [100],ii 1,ii 0,ii 0,ii 1,ii 0,sv [112],ii 3,ii 0,ii 0,ii 0,ii 0,sv [120],ii 1,ii 0,ii 3,ii 0,ii 0]⟩,Xqb0,Xqb1,Xqb2,Xqb3,⟨1829,188,2,ygs⟩,Xqb4,Xqb5,Xqb6,Xqb7,Xqb8,Xqb9,ybed,ybev,ybfx,⟨2433,88,3,[sv [116,111,112],sc 1552 9,sc 1589 2,sv [108,111,119],sc 1829 23,sc 2018 2,sv [116,105,99,107],sc 2120 10,sc 2171 1,sv [99,111,112,121],sc 2351 20,sc 2429 1]⟩],0⟩
def ydgf:List Fact:=[yma]
theorem ycgv:yc ydgf:=yc.seq (yc.append ycay (yc.append ycgb ycit)) (by kernel_rfl)
end Ev
end
section
namespace Ev
end Ev
end
end Go.Proofs.YtlbonpgkofloeaaGreatDoor
