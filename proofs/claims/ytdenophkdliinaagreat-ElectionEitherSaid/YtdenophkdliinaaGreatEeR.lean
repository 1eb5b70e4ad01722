/- Facts of the runs. Printed by wip/facts4.py. -/
import Derived.Test.YtdenophkdliinaaGreatEeC
import Derived.Test.YtdenophkdliinaaGreatEe11
import Derived.Test.YtdenophkdliinaaGreatEe13
import Derived.Test.YtdenophkdliinaaGreatEe14
import Derived.Test.YtdenophkdliinaaGreatEe15
import Derived.Test.YtdenophkdliinaaGreatEe16
import Derived.Test.YtdenophkdliinaaGreatEe18
namespace Go.Proofs.YtdenophkdliinaaGreat
namespace Ev
open Go
set_option maxRecDepth 1000000
def Eem11 : Fact := Eeg16_6.move [] 79
theorem Eem11_ok : FactOk Tryz.prog Eem11 := fact_move (AllOk.at_ Eeg16L_ok 6 rfl) (by kernel_rfl)
def Eem14 : Fact := Eeg19_4.move [] 4807
theorem Eem14_ok : FactOk Tryz.prog Eem14 := fact_move (AllOk.at_ Eeg19L_ok 4 rfl) (by kernel_rfl)
def Eem16 : Fact := Eeg16_6.move [] 117
theorem Eem16_ok : FactOk Tryz.prog Eem16 := fact_move (AllOk.at_ Eeg16L_ok 6 rfl) (by kernel_rfl)
def Eem20 : Fact := Eeg19_4.move [] 5155
theorem Eem20_ok : FactOk Tryz.prog Eem20 := fact_move (AllOk.at_ Eeg19L_ok 4 rfl) (by kernel_rfl)
def Eem22 : Fact := Eeg16_6.move [] 155
theorem Eem22_ok : FactOk Tryz.prog Eem22 := fact_move (AllOk.at_ Eeg16L_ok 6 rfl) (by kernel_rfl)
def Eem26 : Fact := Eeg19_4.move [] 5503
theorem Eem26_ok : FactOk Tryz.prog Eem26 := fact_move (AllOk.at_ Eeg19L_ok 4 rfl) (by kernel_rfl)
end Ev
end Go.Proofs.YtdenophkdliinaaGreat
