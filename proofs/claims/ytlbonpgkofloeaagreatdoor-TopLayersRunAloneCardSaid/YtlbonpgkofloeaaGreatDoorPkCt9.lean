/- Joined. -/
import Derived.Test.YtlbonpgkofloeaaGreatDoorPkCt6
set_option linter.unusedSimpArgs false
set_option linter.unusedVariables false
set_option maxRecDepth 1000000
open Go.Proofs.Tryz renaming prog->zA
open Go
namespace Go.Proofs.YtlbonpgkofloeaaGreatDoor
section
namespace Ev
def Nqtl:List Nat:=nats 349 0xa3b6c21203d3a206c203e2d20296c203d3d206c2e712026262068203d3d20682e7128656d6f73202626202968203d3c20682e71286c6c61202626206e203c2068203a65697420656c75720a3b65757274203d3a206c203e2d202968203c20682e71286c6c61202626206c21203a656b617420656c75720a3b65736c6166203d3a206c203e2d202968203d3c20682e71286c6c6121202626206c203a706f726420656c75720a3b29296e203a2031202b2029682e7128646e6f636573203f206e203c2029682e7128646e6f63657328203a2030203f2032203c2067656428203d3a2068203e2d2029296e203a2031202b2029682e7128646e6f636573203f206e203c2029682e7128646e6f63657328203a2030203f2032203c2067656428203d212068203a78696620656c75720a3b6c6f6f62203a206c207261760a3b6e202e2e2030203a2068207261760a3b6e6f697463656c65206d6172676f7270
def ygr:ByteArray:=by8 Nqtl
def Nqtk:List (Nat×Nat×Nat×Nat):=lexT 350 Nqtl 0
def Nqlx:List Fact:=lexA 186 187 ygr 349 Nqtk
def yti:List Value:=rowN Nqtk
def Nqb0:BlkL:=⟨1236,188,2,(iiL [36,0,5,0,43,0,37,0,9,0,1,2,1,0,43,0,37,0,28,0,12,0,6,0,33,0,28,0,12,0,1,1,6,0])⟩
def Nqb1:BlkL:=⟨1392,188,2,(iiL [43,0,37,0,9,0,1,2,1,0,43,0,37,0,28,0,12,0,6,0,33,0,28,0,12,0,1,1,6,0])⟩
def Nqb2:BlkL:=⟨1401,132,2,[ii 0,sc 1392 15]⟩
def Nqb3:BlkL:=⟨1474,188,2,(iiL [41,0,5,1,19,0,20,0,38,0,12,0,5,0])⟩
def Nqb4:BlkL:=⟨1487,188,2,(iiL [3,0])⟩
def Nqb5:BlkL:=⟨1494,132,2,[ii 1,.slice (some ⟨1487,0,none⟩) 1 1]⟩
def Nqb6:BlkL:=⟨1567,188,2,(iiL [41,0,19,0,5,1,20,0,37,0,12,0,5,0])⟩
def Nqb7:BlkL:=⟨1580,188,2,(iiL [2,0])⟩
def Nqb8:BlkL:=⟨1587,132,2,[ii 1,.slice (some ⟨1580,0,none⟩) 1 1]⟩
def Nqb9:BlkL:=⟨1745,188,2,(iiL [41,0,41,0,37,0,5,0,6,0,20,0,38,0,12,0,5,0,21,0,41,0,35,0,12,0,5,0,35,0,12,1,5,1])⟩
def ybnw:BlkL:=⟨1764,188,2,(iiL [19,0,5,1])⟩
def ybkl:BlkL:=⟨1771,132,2,[ii 1,sc 1764 2]⟩
end Ev
end
section
namespace Ev
def ydgc:List Fact:=[⟨194,[.pointer (some ⟨1022,0,none⟩)],1501,[⟨1021,160,4,yti⟩,⟨1022,107,0,[.string ygr,.slice (some ⟨1021,408,none⟩) 54 CU,sc 1060 2,sv [101,108,101,99,116,105,111,110],sc 1062 2,sc 1498 2,sc 1412 2]⟩,⟨1060,9,1,[sv [104],sv [108]]⟩,⟨1062,69,6,[sv [104],ii 1,ii 0,ii 0,ii 1,ii 0,sv [108],ii 2,ii 0,ii 0,ii 0,ii 0]⟩,Nqb0,Nqb1,Nqb2,⟨1412,9,1,[sv [102,105,120],sv [100,114,111,112]]⟩,Nqb3,Nqb4,Nqb5,⟨1498,88,3,[sv [102,105,120],sc 1236 17,sc 1401 1,sv [100,114,111,112],sc 1474 7,sc 1494 1]⟩],.tuple #[],1592,[⟨1022,107,0,[.string ygr,.slice (some ⟨1021,480,none⟩) 36 CU,sc 1060 2,sv [101,108,101,99,116,105,111,110],sc 1062 2,sc 1591 3,sc 1505 3]⟩,⟨1060,9,1,[sv [104],sv [108]]⟩,⟨1062,69,6,[sv [104],ii 1,ii 0,ii 0,ii 1,ii 0,sv [108],ii 2,ii 0,ii 0,ii 0,ii 0]⟩,Nqb0,Nqb1,Nqb2,Nqb3,Nqb4,Nqb5,⟨1505,9,1,[sv [102,105,120],sv [100,114,111,112],sv [116,97,107,101]]⟩,Nqb6,Nqb7,Nqb8,⟨1591,88,3,[sv [102,105,120],sc 1236 17,sc 1401 1,sv [100,114,111,112],sc 1474 7,sc 1494 1,sv [116,97,107,101],sc 1567 7,sc 1587 1]⟩],1022⟩]
theorem ychs:yc ydgc:=yc.seq yc.nil (by kernel_rfl)
def ydim:List Fact:=[⟨264,[.pointer (some ⟨1022,0,none⟩),ii 3],1671,[⟨1021,160,4,yti⟩,⟨1022,107,0,[.string ygr,.slice (some ⟨1021,544,none⟩) 20 CU,sc 1060 2,sv [101,108,101,99,116,105,111,110],sc 1062 2,sc 1591 3,sc 1598 4]⟩,⟨1060,9,1,[sv [104],sv [108]]⟩,⟨1062,69,6,[sv [104],ii 1,ii 0,ii 0,ii 1,ii 0,sv [108],ii 2,ii 0,ii 0,ii 0,ii 0]⟩,Nqb0,Nqb1,Nqb2,Nqb3,Nqb4,Nqb5,Nqb6,Nqb7,Nqb8,⟨1591,88,3,[sv [102,105,120],sc 1236 17,sc 1401 1,sv [100,114,111,112],sc 1474 7,sc 1494 1,sv [116,97,107,101],sc 1567 7,sc 1587 1]⟩,⟨1598,9,1,[sv [102,105,120],sv [100,114,111,112],sv [116,97,107,101],sv [116,105,101]]⟩],sc 1738 8,1742,[⟨1022,107,0,[.string ygr,.slice (some ⟨1021,600,none⟩) 6 CU,sc 1060 2,sv [101,108,101,99,116,105,111,110],sc 1062 2,sc 1591 3,sc 1598 4]⟩,⟨1060,9,1,[sv [104],sv [108]]⟩,⟨1062,69,6,[sv [104],ii 1,ii 0,ii 0,ii 1,ii 0,sv [108],ii 2,ii 0,ii 0,ii 0,ii 0]⟩,Nqb0,Nqb1,Nqb2,Nqb3,Nqb4,Nqb5,Nqb6,Nqb7,Nqb8,⟨1591,88,3,[sv [102,105,120],sc 1236 17,sc 1401 1,sv [100,114,111,112],sc 1474 7,sc 1494 1,sv [116,97,107,101],sc 1567 7,sc 1587 1]⟩,⟨1598,9,1,[sv [102,105,120],sv [100,114,111,112],sv [116,97,107,101],sv [116,105,101]]⟩,⟨1738,188,2,(iiL [21,0,41,0,35,0,12,0,5,0,35,0,12,1,5,1])⟩],1022⟩]
theorem ycew:yc ydim:=yc.seq yc.nil (by kernel_rfl)
def ycdh:Fact:=⟨199,[.agg #[sv [102,105,120],sc 1236 17,sc 1401 1],ii 2],1791,[Nqb0,Nqb1,Nqb2],.bool true,1986,[],1791⟩
def ycig:Fact:=⟨199,[.agg #[sv [116,105,101],sc 1745 17,sc 1771 1],ii 2],2091,[Nqb9,ybnw,ybkl],.bool true,2208,[],2091⟩
def ydgg:List Fact:=[ycdh,ycig]
theorem yyo:yc ydgg:=yc.seq yc.nil (by kernel_rfl)
end Ev
end
section
namespace Ev
def ybyk:Fact:=⟨201,[.agg #[sv [102,105,120],sc 1236 17,sc 1401 1],.slice (some ⟨2209,0,none⟩) 2 2],2213,[Nqb0,Nqb1,Nqb2,⟨2209,3,1,(iiL [1,2])⟩],.bool true,2537,[],2213⟩
def yddg:List Fact:=[ybyk]
theorem ybgy:yc yddg:=yc.seq yc.nil (by kernel_rfl)
def ybzb:Fact:=⟨201,[.agg #[sv [116,105,101],sc 1745 17,sc 1771 1],.slice (some ⟨2209,0,none⟩) 2 2],2708,[Nqb9,ybnw,ybkl,⟨2209,3,1,(iiL [1,2])⟩],.bool true,2902,[],2708⟩
def yddu:List Fact:=[ybzb]
theorem ybhe:yc yddu:=yc.seq yc.nil (by kernel_rfl)
end Ev
end
section
namespace Ev
def ydiz:List Fact:=[⟨106,[.agg #[sv [101,108,101,99,116,105,111,110],sc 1062 2,sc 1775 4]],1776,[⟨1062,69,6,[sv [104],ii 1,ii 0,ii 0,ii 1,ii 0,sv [108],ii 2,ii 0,ii 0,ii 0,ii 0]⟩,Nqb0,Nqb1,Nqb2,Nqb3,Nqb4,Nqb5,Nqb6,Nqb7,Nqb8,Nqb9,ybnw,ybkl,⟨1775,88,3,[sv [102,105,120],sc 1236 17,sc 1401 1,sv [100,114,111,112],sc 1474 7,sc 1494 1,sv [116,97,107,101],sc 1567 7,sc 1587 1,sv [116,105,101],sc 1745 17,sc 1771 1]⟩],ii 0,2902,[],1776⟩]
theorem ycej:yc ydiz:=yc.seq (yc.append yyo (yc.append ybgy ybhe)) (by kernel_rfl)
def Nqm0:Fact:=ycdh.move [1236,1392,1401] 2919
theorem ycxr:ybp zA Nqm0:=ybg (yc.at_ yyo 0 rfl) (by kernel_rfl)
def Nqm1:Fact:=ycig.move [1745,1764,1771] 3219
theorem yczk:ybp zA Nqm1:=ybg (yc.at_ yyo 1 rfl) (by kernel_rfl)
def Nqm2:Fact:=ybyk.move [1236,1392,1401,3337] 3341
theorem ydat:ybp zA Nqm2:=ybg (yc.at_ ybgy 0 rfl) (by kernel_rfl)
def Nqm3:Fact:=ybzb.move [1745,1764,1771,3337] 3836
theorem yday:ybp zA Nqm3:=ybg (yc.at_ ybhe 0 rfl) (by kernel_rfl)
def ybdt:Fact:=⟨77,[.agg #[sv [101,108,101,99,116,105,111,110],sc 1062 2,sc 1775 4]],2903,[⟨1062,69,6,[sv [104],ii 1,ii 0,ii 0,ii 1,ii 0,sv [108],ii 2,ii 0,ii 0,ii 0,ii 0]⟩,Nqb0,Nqb1,Nqb2,Nqb3,Nqb4,Nqb5,Nqb6,Nqb7,Nqb8,Nqb9,ybnw,ybkl,⟨1775,88,3,[sv [102,105,120],sc 1236 17,sc 1401 1,sv [100,114,111,112],sc 1474 7,sc 1494 1,sv [116,97,107,101],sc 1567 7,sc 1587 1,sv [116,105,101],sc 1745 17,sc 1771 1]⟩],.bool true,4030,[],2903⟩
def ydgb:List Fact:=[ybdt]
theorem ybis:yc ydgb:=yc.seq (yc.append (yc.cons (f:=Nqm0) ycxr yc.nil) (yc.append (yc.cons (f:=Nqm1) yczk yc.nil) (yc.append (yc.cons (f:=Nqm2) ydat yc.nil) (yc.cons (f:=Nqm3) yday yc.nil)))) (by kernel_rfl)
end Ev
end
section
namespace Ev
def ydmx:List Fact:=[⟨237,[.pointer (some ⟨1022,0,none⟩)],1116,[⟨1021,160,4,yti⟩,⟨1022,107,0,[.string ygr,.slice (some ⟨1021,108,none⟩) 129 CU,sc 1060 2,sv [101,108,101,99,116,105,111,110],sc 1062 2,.slice none 0 0,sc 1069 1]⟩,⟨1060,9,1,[sv [104],sv [108]]⟩,⟨1062,69,6,[sv [104],ii 1,ii 0,ii 0,ii 1,ii 0,sv [108],ii 2,ii 0,ii 0,ii 0,ii 0]⟩,⟨1069,9,1,[sv [102,105,120]]⟩],sc 1216 10,1224,[⟨1022,107,0,[.string ygr,.slice (some ⟨1021,192,none⟩) 108 CU,sc 1060 2,sv [101,108,101,99,116,105,111,110],sc 1062 2,.slice none 0 0,sc 1069 1]⟩,⟨1060,9,1,[sv [104],sv [108]]⟩,⟨1062,69,6,[sv [104],ii 1,ii 0,ii 0,ii 1,ii 0,sv [108],ii 2,ii 0,ii 0,ii 0,ii 0]⟩,⟨1069,9,1,[sv [102,105,120]]⟩,⟨1216,188,2,(iiL [43,0,37,0,28,0,12,0,6,0,33,0,28,0,12,0,1,1,6,0])⟩],1022⟩]
theorem ycpg:yc ydmx:=yc.seq yc.nil (by kernel_rfl)
def ydme:List Fact:=[⟨237,[.pointer (some ⟨1022,0,none⟩)],1280,[⟨1021,160,4,yti⟩,⟨1022,107,0,[.string ygr,.slice (some ⟨1021,236,none⟩) 97 CU,sc 1060 2,sv [101,108,101,99,116,105,111,110],sc 1062 2,.slice none 0 0,sc 1069 1]⟩,⟨1060,9,1,[sv [104],sv [108]]⟩,⟨1062,69,6,[sv [104],ii 1,ii 0,ii 0,ii 1,ii 0,sv [108],ii 2,ii 0,ii 0,ii 0,ii 0]⟩,⟨1069,9,1,[sv [102,105,120]]⟩],sc 1380 10,1388,[⟨1022,107,0,[.string ygr,.slice (some ⟨1021,320,none⟩) 76 CU,sc 1060 2,sv [101,108,101,99,116,105,111,110],sc 1062 2,.slice none 0 0,sc 1069 1]⟩,⟨1060,9,1,[sv [104],sv [108]]⟩,⟨1062,69,6,[sv [104],ii 1,ii 0,ii 0,ii 1,ii 0,sv [108],ii 2,ii 0,ii 0,ii 0,ii 0]⟩,⟨1069,9,1,[sv [102,105,120]]⟩,⟨1380,188,2,(iiL [43,0,37,0,28,0,12,0,6,0,33,0,28,0,12,0,1,1,6,0])⟩],1022⟩]
theorem ycnu:yc ydme:=yc.seq yc.nil (by kernel_rfl)
def ydju:List Fact:=[⟨194,[.pointer (some ⟨1022,0,none⟩)],1408,[⟨1021,160,4,yti⟩,⟨1022,107,0,[.string ygr,.slice (some ⟨1021,332,none⟩) 73 CU,sc 1060 2,sv [101,108,101,99,116,105,111,110],sc 1062 2,sc 1405 1,sc 1069 1]⟩,⟨1060,9,1,[sv [104],sv [108]]⟩,⟨1062,69,6,[sv [104],ii 1,ii 0,ii 0,ii 1,ii 0,sv [108],ii 2,ii 0,ii 0,ii 0,ii 0]⟩,⟨1069,9,1,[sv [102,105,120]]⟩,Nqb0,Nqb1,Nqb2,⟨1405,88,3,[sv [102,105,120],sc 1236 17,sc 1401 1]⟩],.tuple #[],1499,[⟨1022,107,0,[.string ygr,.slice (some ⟨1021,404,none⟩) 55 CU,sc 1060 2,sv [101,108,101,99,116,105,111,110],sc 1062 2,sc 1498 2,sc 1412 2]⟩,⟨1060,9,1,[sv [104],sv [108]]⟩,⟨1062,69,6,[sv [104],ii 1,ii 0,ii 0,ii 1,ii 0,sv [108],ii 2,ii 0,ii 0,ii 0,ii 0]⟩,Nqb0,Nqb1,Nqb2,⟨1412,9,1,[sv [102,105,120],sv [100,114,111,112]]⟩,Nqb3,Nqb4,Nqb5,⟨1498,88,3,[sv [102,105,120],sc 1236 17,sc 1401 1,sv [100,114,111,112],sc 1474 7,sc 1494 1]⟩],1022⟩]
theorem ycep:yc ydju:=yc.seq yc.nil (by kernel_rfl)
end Ev
end
section
namespace Ev
def ydkz:List Fact:=lg Nqlx [1,1,1,5,7,5,1,1,1,1,1,3,1,1,1,3,3,1,1,1]
theorem yckz:yc ydkz:=yc.seq yc.nil (by kernel_rfl)
def ydmu:List Fact:=lg Nqlx [63,3,1,3,1,1,3,3,1,3,3,1,5,1,1,1,3,3,1,1]
theorem ycpd:yc ydmu:=yc.seq yc.nil (by kernel_rfl)
def ydkd:List Fact:=lg Nqlx [123,3,3,1,3,1,1,3,3,1,3,3,1,1,1,1,1,3,1,1]
theorem ycqw:yc ydkd:=yc.seq yc.nil (by kernel_rfl)
def ydnw:List Fact:=lg Nqlx [179,3,3,3,5,1,1,1,1,1,1,3,1,1,3,3,3,5,1,1]
theorem ycpq:yc ydnw:=yc.seq yc.nil (by kernel_rfl)
def ydlj:List Fact:=lg Nqlx [241,1,1,3,3,1,1,3,3,3,1,1,1,3,3,3,3,3,3,7]
theorem ycnw:yc ydlj:=yc.seq yc.nil (by kernel_rfl)
def ydkm:List Fact:=lg Nqlx [311]
theorem ycpp:yc ydkm:=yc.seq yc.nil (by kernel_rfl)
end Ev
end
section
namespace Ev
def ydkv:List Fact:=[⟨103,[.string ygr],2,[],.tuple #[sc 1021 156,ii 0,ii 0],1022,[⟨1021,160,4,yti⟩],2⟩]
theorem ycjz:yc ydkv:=yc.one (yu.cons (n:=189) yckz (yu.cons (n:=394) ycpd (yu.cons (n:=578) ycqw (yu.cons (n:=780) ycpq (yu.cons (n:=1002) ycnw (yu.cons (n:=1015) ycpp yu.nil)))))) (by kernel_rfl)
def ydkj:List Fact:=[⟨237,[.pointer (some ⟨1022,0,none⟩)],1072,[⟨1021,160,4,yti⟩,⟨1022,107,0,[.string ygr,.slice (some ⟨1021,72,none⟩) 138 CU,sc 1060 2,sv [101,108,101,99,116,105,111,110],sc 1062 2,.slice none 0 0,sc 1069 1]⟩,⟨1060,9,1,[sv [104],sv [108]]⟩,⟨1062,69,6,[sv [104],ii 1,ii 0,ii 0,ii 1,ii 0,sv [108],ii 2,ii 0,ii 0,ii 0,ii 0]⟩,⟨1069,9,1,[sv [102,105,120]]⟩],sc 1236 17,1239,[⟨1022,107,0,[.string ygr,.slice (some ⟨1021,196,none⟩) 107 CU,sc 1060 2,sv [101,108,101,99,116,105,111,110],sc 1062 2,.slice none 0 0,sc 1069 1]⟩,⟨1060,9,1,[sv [104],sv [108]]⟩,⟨1062,69,6,[sv [104],ii 1,ii 0,ii 0,ii 1,ii 0,sv [108],ii 2,ii 0,ii 0,ii 0,ii 0]⟩,⟨1069,9,1,[sv [102,105,120]]⟩,Nqb0],1022⟩]
theorem ycld:yc ydkj:=yc.seq ycpg (by kernel_rfl)
def ydge:List Fact:=[⟨194,[.pointer (some ⟨1022,0,none⟩)],1594,[⟨1021,160,4,yti⟩,⟨1022,107,0,[.string ygr,.slice (some ⟨1021,484,none⟩) 35 CU,sc 1060 2,sv [101,108,101,99,116,105,111,110],sc 1062 2,sc 1591 3,sc 1505 3]⟩,⟨1060,9,1,[sv [104],sv [108]]⟩,⟨1062,69,6,[sv [104],ii 1,ii 0,ii 0,ii 1,ii 0,sv [108],ii 2,ii 0,ii 0,ii 0,ii 0]⟩,Nqb0,Nqb1,Nqb2,Nqb3,Nqb4,Nqb5,⟨1505,9,1,[sv [102,105,120],sv [100,114,111,112],sv [116,97,107,101]]⟩,Nqb6,Nqb7,Nqb8,⟨1591,88,3,[sv [102,105,120],sc 1236 17,sc 1401 1,sv [100,114,111,112],sc 1474 7,sc 1494 1,sv [116,97,107,101],sc 1567 7,sc 1587 1]⟩],.tuple #[],1776,[⟨1022,107,0,[.string ygr,.slice (some ⟨1021,624,none⟩) 0 CU,sc 1060 2,sv [101,108,101,99,116,105,111,110],sc 1062 2,sc 1775 4,sc 1598 4]⟩,⟨1060,9,1,[sv [104],sv [108]]⟩,⟨1062,69,6,[sv [104],ii 1,ii 0,ii 0,ii 1,ii 0,sv [108],ii 2,ii 0,ii 0,ii 0,ii 0]⟩,Nqb0,Nqb1,Nqb2,Nqb3,Nqb4,Nqb5,Nqb6,Nqb7,Nqb8,⟨1598,9,1,[sv [102,105,120],sv [100,114,111,112],sv [116,97,107,101],sv [116,105,101]]⟩,Nqb9,ybnw,ybkl,⟨1775,88,3,[sv [102,105,120],sc 1236 17,sc 1401 1,sv [100,114,111,112],sc 1474 7,sc 1494 1,sv [116,97,107,101],sc 1567 7,sc 1587 1,sv [116,105,101],sc 1745 17,sc 1771 1]⟩],1022⟩]
theorem ybzq:yc ydge:=yc.seq ycew (by kernel_rfl)
end Ev
end
section
namespace Ev
def ymh:Fact:=⟨6,[.string ygr],0,[],.agg #[sv [101,108,101,99,116,105,111,110],sc 1062 2,sc 1775 4],2903,[⟨1062,69,6,[sv [104],ii 1,ii 0,ii 0,ii 1,ii 0,sv [108],ii 2,ii 0,ii 0,ii 0,ii 0]⟩,Nqb0,Nqb1,Nqb2,Nqb3,Nqb4,Nqb5,Nqb6,Nqb7,Nqb8,Nqb9,ybnw,ybkl,⟨1775,88,3,[sv [102,105,120],sc 1236 17,sc 1401 1,sv [100,114,111,112],sc 1474 7,sc 1494 1,sv [116,97,107,101],sc 1567 7,sc 1587 1,sv [116,105,101],sc 1745 17,sc 1771 1]⟩],0⟩
def yddc:List Fact:=[ymh]
theorem ybvy:yc yddc:=yc.seq (yc.append ycjz (yc.append ycld (yc.append ycnu (yc.append ycep (yc.append ychs (yc.append ybzq ycej)))))) (by kernel_rfl)
def Nqm4:Fact:=ybdt.move [1062,1236,1392,1401,1474,1487,1494,1567,1580,1587,1745,1764,1771,1775] 2904
theorem ycvt:ybp zA Nqm4:=ybg (yc.at_ ybis 0 rfl) (by kernel_rfl)
def ybkw:Fact:=⟨14,[.agg #[sv [101,108,101,99,116,105,111,110],sc 1062 2,sc 1775 4],.int .u32 1],2903,[⟨1062,69,6,[sv [104],ii 1,ii 0,ii 0,ii 1,ii 0,sv [108],ii 2,ii 0,ii 0,ii 0,ii 0]⟩,Nqb0,Nqb1,Nqb2,Nqb3,Nqb4,Nqb5,Nqb6,Nqb7,Nqb8,Nqb9,ybnw,ybkl,⟨1775,88,3,[sv [102,105,120],sc 1236 17,sc 1401 1,sv [100,114,111,112],sc 1474 7,sc 1494 1,sv [116,97,107,101],sc 1567 7,sc 1587 1,sv [116,105,101],sc 1745 17,sc 1771 1]⟩],.bool true,4271,[],2903⟩
def ydjj:List Fact:=[ybkw]
theorem ycas:yc ydjj:=yc.seq (yc.cons (f:=Nqm4) ycvt yc.nil) (by kernel_rfl)
end Ev
end
section
namespace Ev
end Ev
end
end Go.Proofs.YtlbonpgkofloeaaGreatDoor
