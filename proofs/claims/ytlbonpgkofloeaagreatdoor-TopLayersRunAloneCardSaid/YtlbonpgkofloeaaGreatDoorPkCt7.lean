/- Joined. -/
import Derived.Test.YtlbonpgkofloeaaGreatDoorPkCt6
set_option linter.unusedSimpArgs false
set_option linter.unusedVariables false
set_option maxRecDepth 1000000
open Go
namespace Go.Proofs.YtlbonpgkofloeaaGreatDoor
section
namespace Ev
def Cqtl:List Nat:=nats 168 0xa3b29296e203a2031202b2029682e7128646e6f636573203f206e203c2029682e7128646e6f63657328203a2030203f2032203c2067656428203d3a2068203e2d2029296e203a2031202b2029682e7128646e6f636573203f206e203c2029682e7128646e6f63657328203a2030203f2032203c2067656428203d212068203a78696620656c75720a3b6e202e2e2030203a2068207261760a3b7265746e6563206d6172676f7270
def yob:ByteArray:=by8 Cqtl
def Cqtk:List (Nat×Nat×Nat×Nat):=lexT 169 Cqtl 0
def Cqlx:List Fact:=lexA 186 187 yob 168 Cqtk
def ybpn:List Value:=rowN Cqtk
def Cqb0:BlkL:=⟨706,188,2,(iiL [36,0,5,0,43,0,37,0,9,0,1,2,1,0,43,0,37,0,28,0,12,0,6,0,33,0,28,0,12,0,1,1,6,0])⟩
def Cqb1:BlkL:=⟨862,188,2,(iiL [43,0,37,0,9,0,1,2,1,0,43,0,37,0,28,0,12,0,6,0,33,0,28,0,12,0,1,1,6,0])⟩
def Cqb2:BlkL:=⟨871,132,2,[ii 0,sc 862 15]⟩
end Ev
end
section
namespace Ev
def ydmd:List Fact:=lg Cqlx [5,5,7,5,5,3,3,3,1,3,3,3,1,3,3,3,3,1,3,3]
theorem ycmu:yc ydmd:=yc.seq yc.nil (by kernel_rfl)
def ydoe:List Fact:=lg Cqlx [87,7,3,3]
theorem ycqj:yc ydoe:=yc.seq yc.nil (by kernel_rfl)
def ydno:List Fact:=[⟨237,[.pointer (some ⟨507,0,none⟩)],586,[⟨506,160,4,ybpn⟩,⟨507,107,0,[.string yob,.slice (some ⟨506,88,none⟩) 55 CU,sc 530 1,sv [99,101,110,116,101,114],sc 532 1,.slice none 0 0,sc 539 1]⟩,⟨530,9,1,[sv [104]]⟩,⟨532,69,6,[sv [104],ii 1,ii 0,ii 0,ii 1,ii 0]⟩,⟨539,9,1,[sv [102,105,120]]⟩],sc 686 10,694,[⟨507,107,0,[.string yob,.slice (some ⟨506,172,none⟩) 34 CU,sc 530 1,sv [99,101,110,116,101,114],sc 532 1,.slice none 0 0,sc 539 1]⟩,⟨530,9,1,[sv [104]]⟩,⟨532,69,6,[sv [104],ii 1,ii 0,ii 0,ii 1,ii 0]⟩,⟨539,9,1,[sv [102,105,120]]⟩,⟨686,188,2,(iiL [43,0,37,0,28,0,12,0,6,0,33,0,28,0,12,0,1,1,6,0])⟩],507⟩]
theorem ycma:yc ydno:=yc.seq yc.nil (by kernel_rfl)
def ydmc:List Fact:=[⟨237,[.pointer (some ⟨507,0,none⟩)],750,[⟨506,160,4,ybpn⟩,⟨507,107,0,[.string yob,.slice (some ⟨506,216,none⟩) 23 CU,sc 530 1,sv [99,101,110,116,101,114],sc 532 1,.slice none 0 0,sc 539 1]⟩,⟨530,9,1,[sv [104]]⟩,⟨532,69,6,[sv [104],ii 1,ii 0,ii 0,ii 1,ii 0]⟩,⟨539,9,1,[sv [102,105,120]]⟩],sc 850 10,858,[⟨507,107,0,[.string yob,.slice (some ⟨506,300,none⟩) 2 CU,sc 530 1,sv [99,101,110,116,101,114],sc 532 1,.slice none 0 0,sc 539 1]⟩,⟨530,9,1,[sv [104]]⟩,⟨532,69,6,[sv [104],ii 1,ii 0,ii 0,ii 1,ii 0]⟩,⟨539,9,1,[sv [102,105,120]]⟩,⟨850,188,2,(iiL [43,0,37,0,28,0,12,0,6,0,33,0,28,0,12,0,1,1,6,0])⟩],507⟩]
theorem ycmq:yc ydmc:=yc.seq yc.nil (by kernel_rfl)
end Ev
end
section
namespace Ev
def yctk:Fact:=⟨201,[.agg #[sv [102,105,120],sc 706 17,sc 871 1],.slice (some ⟨1081,0,none⟩) 1 1],1084,[Cqb0,Cqb1,Cqb2,⟨1081,3,1,(iiL [1])⟩],.bool true,1408,[],1084⟩
def ydoi:List Fact:=[yctk]
theorem ybpj:yc ydoi:=yc.seq yc.nil (by kernel_rfl)
end Ev
end
section
namespace Ev
def ydlx:List Fact:=[⟨103,[.string yob],2,[],.tuple #[sc 506 77,ii 0,ii 0],507,[⟨506,160,4,ybpn⟩],2⟩]
theorem yclg:yc ydlx:=yc.seq (yc.append ycmu ycqj) (by kernel_rfl)
def ydni:List Fact:=[⟨192,[.pointer (some ⟨507,0,none⟩),sv [114,117,108,101],ii 12,.func (.func 194) #[.pointer (some ⟨507,0,none⟩)] #[]],533,[⟨506,160,4,ybpn⟩,⟨507,107,0,[.string yob,.slice (some ⟨506,40,none⟩) 67 CU,sc 530 1,sv [99,101,110,116,101,114],sc 532 1,.slice none 0 0,.slice none 0 0]⟩,⟨530,9,1,[sv [104]]⟩,⟨532,69,6,[sv [104],ii 1,ii 0,ii 0,ii 1,ii 0]⟩],.tuple #[],876,[⟨507,107,0,[.string yob,.slice (some ⟨506,308,none⟩) 0 CU,sc 530 1,sv [99,101,110,116,101,114],sc 532 1,sc 875 1,sc 539 1]⟩,⟨530,9,1,[sv [104]]⟩,⟨532,69,6,[sv [104],ii 1,ii 0,ii 0,ii 1,ii 0]⟩,⟨539,9,1,[sv [102,105,120]]⟩,Cqb0,Cqb1,Cqb2,⟨875,88,3,[sv [102,105,120],sc 706 17,sc 871 1]⟩],507⟩]
theorem ycmx:yc ydni:=yc.seq (yc.append ycma ycmq) (by kernel_rfl)
def Cqm0:Fact:=yctk.move [706,862,871,1615] 1618
theorem ycuv:ybp Tryz.prog Cqm0:=ybg (yc.at_ ybpj 0 rfl) (by kernel_rfl)
def yceo:Fact:=⟨77,[.agg #[sv [99,101,110,116,101,114],sc 532 1,sc 875 1]],1409,[⟨532,69,6,[sv [104],ii 1,ii 0,ii 0,ii 1,ii 0]⟩,Cqb0,Cqb1,Cqb2,⟨875,88,3,[sv [102,105,120],sc 706 17,sc 871 1]⟩],.bool true,1942,[],1409⟩
def ydml:List Fact:=[yceo]
theorem ycrb:yc ydml:=yc.seq (yc.cons (f:=Cqm0) ycuv yc.nil) (by kernel_rfl)
end Ev
end
section
namespace Ev
def ybaw:Fact:=⟨6,[.string yob],0,[],.agg #[sv [99,101,110,116,101,114],sc 532 1,sc 875 1],1409,[⟨532,69,6,[sv [104],ii 1,ii 0,ii 0,ii 1,ii 0]⟩,Cqb0,Cqb1,Cqb2,⟨875,88,3,[sv [102,105,120],sc 706 17,sc 871 1]⟩],0⟩
def ydkk:List Fact:=[ybaw]
theorem ycsi:yc ydkk:=yc.seq (yc.append yclg (yc.append ycmx ybpj)) (by kernel_rfl)
end Ev
end
section
namespace Ev
end Ev
end
end Go.Proofs.YtlbonpgkofloeaaGreatDoor
