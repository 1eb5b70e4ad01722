/- Joined. -/
import Derived.Test.YtlbonpgkofloeaaGreatDoorPkCt6
set_option linter.unusedSimpArgs false
set_option linter.unusedVariables false
set_option maxRecDepth 1000000
open Go
namespace Go.Proofs.YtlbonpgkofloeaaGreatDoor
section
namespace Ev
def Wvii(n:Int):Value:=.int .i64 n
end Ev
end
section
namespace Ev
def yccu:Fact:=⟨67,[],0,[],.slice (some ⟨2,0,none⟩) 2 2,3,[⟨2,69,6,[.string (by8 [109]),Wvii 2,Wvii 0,Wvii 0,Wvii 0,Wvii 0,.string (by8 [104]),Wvii 3,Wvii 0,Wvii 0,Wvii 0,Wvii 0]⟩],0⟩
def ybyo:Fact:=⟨68,[],0,[],.slice (some ⟨6,0,none⟩) 4 CU,7,[⟨6,69,6,[.string (by8 [100]),Wvii 1,Wvii 0,Wvii 0,Wvii 1,Wvii 0,.string (by8 [112]),Wvii 3,Wvii 0,Wvii 0,Wvii 0,Wvii 0,.string (by8 [115]),Wvii 2,Wvii 0,Wvii 0,Wvii 0,Wvii 0,.string (by8 [98]),Wvii 2,Wvii 0,Wvii 0,Wvii 0,Wvii 0]⟩],0⟩
def ychi:Fact:=⟨69,[],0,[],.slice (some ⟨5,0,none⟩) 3 CU,6,[⟨5,69,6,[.string (by8 [100]),Wvii 1,Wvii 0,Wvii 0,Wvii 1,Wvii 0,.string (by8 [112]),Wvii 3,Wvii 0,Wvii 0,Wvii 0,Wvii 0,.string (by8 [120]),Wvii 1,Wvii 0,Wvii 3,Wvii 0,Wvii 0]⟩],0⟩
def ybwa:Fact:=⟨70,[],0,[],.slice (some ⟨10,0,none⟩) 6 CU,11,[⟨10,69,6,[.string (by8 [100]),Wvii 1,Wvii 0,Wvii 0,Wvii 1,Wvii 0,.string (by8 [112]),Wvii 3,Wvii 0,Wvii 0,Wvii 0,Wvii 0,.string (by8 [115]),Wvii 2,Wvii 0,Wvii 0,Wvii 0,Wvii 0,.string (by8 [98]),Wvii 2,Wvii 0,Wvii 0,Wvii 0,Wvii 0,.string (by8 [120]),Wvii 1,Wvii 0,Wvii 15,Wvii 0,Wvii 0,.string (by8 [97]),Wvii 1,Wvii 0,Wvii 0,Wvii 15,Wvii 0]⟩],0⟩
def yciw:Fact:=⟨71,[],0,[],.slice (some ⟨10,0,none⟩) 6 CU,11,[⟨10,69,6,[.string (by8 [100]),Wvii 1,Wvii 0,Wvii 0,Wvii 1,Wvii 0,.string (by8 [112]),Wvii 3,Wvii 0,Wvii 0,Wvii 0,Wvii 0,.string (by8 [115]),Wvii 2,Wvii 0,Wvii 0,Wvii 0,Wvii 0,.string (by8 [98]),Wvii 2,Wvii 0,Wvii 0,Wvii 0,Wvii 0,.string (by8 [121]),Wvii 1,Wvii 0,Wvii 3,Wvii 0,Wvii 0,.string (by8 [114]),Wvii 2,Wvii 0,Wvii 0,Wvii 0,Wvii 0]⟩],0⟩
def ydka:List Fact:=[yccu,ybyo,ychi,ybwa,yciw]
theorem ypg:yc ydka:=yc.seq yc.nil (by kernel_rfl)
end Ev
end
end Go.Proofs.YtlbonpgkofloeaaGreatDoor
