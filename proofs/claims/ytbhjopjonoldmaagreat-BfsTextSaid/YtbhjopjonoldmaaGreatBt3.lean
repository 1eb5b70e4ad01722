/- Facts: selfstab/lexer.next. Printed by wip/facts.py. -/
import Derived.Test.YtbhjopjonoldmaaGreatBt2
namespace Go.Proofs.YtbhjopjonoldmaaGreat
namespace Ev
open Go
set_option maxRecDepth 1000000
def Bt3_0 : Fact := ⟨73, [.string Bttxt0, .int .i64 218], 629, [], .tuple #[.agg #[.int .i64 1, .int .i64 218, .int .i64 219, .int .i64 0], .int .i64 0], 632, [], 629⟩
def Bt3_1 : Fact := ⟨73, [.string Bttxt0, .int .i64 220], 635, [], .tuple #[.agg #[.int .i64 3, .int .i64 220, .int .i64 221, .int .i64 0], .int .i64 0], 639, [], 635⟩
def Bt3_2 : Fact := ⟨73, [.string Bttxt0, .int .i64 222], 642, [], .tuple #[.agg #[.int .i64 1, .int .i64 222, .int .i64 225, .int .i64 0], .int .i64 0], 645, [], 642⟩
def Bt3_3 : Fact := ⟨73, [.string Bttxt0, .int .i64 225], 648, [], .tuple #[.agg #[.int .i64 3, .int .i64 225, .int .i64 226, .int .i64 0], .int .i64 0], 652, [], 648⟩
def Bt3_4 : Fact := ⟨73, [.string Bttxt0, .int .i64 226], 655, [], .tuple #[.agg #[.int .i64 1, .int .i64 226, .int .i64 227, .int .i64 0], .int .i64 0], 658, [], 655⟩
def Bt3_5 : Fact := ⟨73, [.string Bttxt0, .int .i64 227], 661, [], .tuple #[.agg #[.int .i64 3, .int .i64 227, .int .i64 228, .int .i64 0], .int .i64 0], 665, [], 661⟩
def Bt3_6 : Fact := ⟨73, [.string Bttxt0, .int .i64 228], 668, [], .tuple #[.agg #[.int .i64 1, .int .i64 228, .int .i64 229, .int .i64 0], .int .i64 0], 671, [], 668⟩
def Bt3_7 : Fact := ⟨73, [.string Bttxt0, .int .i64 229], 674, [], .tuple #[.agg #[.int .i64 3, .int .i64 229, .int .i64 230, .int .i64 0], .int .i64 0], 678, [], 674⟩
def Bt3_8 : Fact := ⟨73, [.string Bttxt0, .int .i64 231], 681, [], .tuple #[.agg #[.int .i64 3, .int .i64 231, .int .i64 232, .int .i64 0], .int .i64 0], 685, [], 681⟩
def Bt3_9 : Fact := ⟨73, [.string Bttxt0, .int .i64 233], 688, [], .tuple #[.agg #[.int .i64 2, .int .i64 233, .int .i64 234, .int .i64 1], .int .i64 0], 691, [], 688⟩
def Bt3_10 : Fact := ⟨73, [.string Bttxt0, .int .i64 235], 694, [], .tuple #[.agg #[.int .i64 3, .int .i64 235, .int .i64 236, .int .i64 0], .int .i64 0], 698, [], 694⟩
def Bt3_11 : Fact := ⟨73, [.string Bttxt0, .int .i64 237], 701, [], .tuple #[.agg #[.int .i64 1, .int .i64 237, .int .i64 238, .int .i64 0], .int .i64 0], 704, [], 701⟩
def Bt3_12 : Fact := ⟨73, [.string Bttxt0, .int .i64 238], 707, [], .tuple #[.agg #[.int .i64 3, .int .i64 238, .int .i64 239, .int .i64 0], .int .i64 0], 711, [], 707⟩
def Bt3_13 : Fact := ⟨73, [.string Bttxt0, .int .i64 239], 714, [], .tuple #[.agg #[.int .i64 3, .int .i64 239, .int .i64 240, .int .i64 0], .int .i64 0], 718, [], 714⟩
def Bt3_14 : Fact := ⟨73, [.string Bttxt0, .int .i64 241], 721, [], .tuple #[.agg #[.int .i64 1, .int .i64 241, .int .i64 242, .int .i64 0], .int .i64 0], 724, [], 721⟩
def Bt3_15 : Fact := ⟨73, [.string Bttxt0, .int .i64 243], 727, [], .tuple #[.agg #[.int .i64 3, .int .i64 243, .int .i64 245, .int .i64 0], .int .i64 0], 731, [], 727⟩
def Bt3_16 : Fact := ⟨73, [.string Bttxt0, .int .i64 246], 734, [], .tuple #[.agg #[.int .i64 1, .int .i64 246, .int .i64 251, .int .i64 0], .int .i64 0], 737, [], 734⟩
def Bt3_17 : Fact := ⟨73, [.string Bttxt0, .int .i64 251], 740, [], .tuple #[.agg #[.int .i64 3, .int .i64 251, .int .i64 252, .int .i64 0], .int .i64 0], 744, [], 740⟩
def Bt3_18 : Fact := ⟨73, [.string Bttxt0, .int .i64 252], 747, [], .tuple #[.agg #[.int .i64 1, .int .i64 252, .int .i64 253, .int .i64 0], .int .i64 0], 750, [], 747⟩
def Bt3_19 : Fact := ⟨73, [.string Bttxt0, .int .i64 253], 753, [], .tuple #[.agg #[.int .i64 3, .int .i64 253, .int .i64 254, .int .i64 0], .int .i64 0], 757, [], 753⟩
def Bt3_20 : Fact := ⟨73, [.string Bttxt0, .int .i64 254], 760, [], .tuple #[.agg #[.int .i64 1, .int .i64 254, .int .i64 255, .int .i64 0], .int .i64 0], 763, [], 760⟩
def Bt3_21 : Fact := ⟨73, [.string Bttxt0, .int .i64 256], 766, [], .tuple #[.agg #[.int .i64 3, .int .i64 256, .int .i64 258, .int .i64 0], .int .i64 0], 770, [], 766⟩
def Bt3_22 : Fact := ⟨73, [.string Bttxt0, .int .i64 259], 773, [], .tuple #[.agg #[.int .i64 1, .int .i64 259, .int .i64 262, .int .i64 0], .int .i64 0], 776, [], 773⟩
def Bt3_23 : Fact := ⟨73, [.string Bttxt0, .int .i64 262], 779, [], .tuple #[.agg #[.int .i64 3, .int .i64 262, .int .i64 263, .int .i64 0], .int .i64 0], 783, [], 779⟩
def Bt3_24 : Fact := ⟨73, [.string Bttxt0, .int .i64 263], 786, [], .tuple #[.agg #[.int .i64 1, .int .i64 263, .int .i64 264, .int .i64 0], .int .i64 0], 789, [], 786⟩
def Bt3_25 : Fact := ⟨73, [.string Bttxt0, .int .i64 264], 792, [], .tuple #[.agg #[.int .i64 3, .int .i64 264, .int .i64 265, .int .i64 0], .int .i64 0], 796, [], 792⟩
def Bt3_26 : Fact := ⟨73, [.string Bttxt0, .int .i64 265], 799, [], .tuple #[.agg #[.int .i64 1, .int .i64 265, .int .i64 266, .int .i64 0], .int .i64 0], 802, [], 799⟩
def Bt3_27 : Fact := ⟨73, [.string Bttxt0, .int .i64 266], 805, [], .tuple #[.agg #[.int .i64 3, .int .i64 266, .int .i64 267, .int .i64 0], .int .i64 0], 809, [], 805⟩
def Bt3_28 : Fact := ⟨73, [.string Bttxt0, .int .i64 267], 812, [], .tuple #[.agg #[.int .i64 3, .int .i64 267, .int .i64 268, .int .i64 0], .int .i64 0], 816, [], 812⟩
def Bt3_29 : Fact := ⟨73, [.string Bttxt0, .int .i64 268], 819, [], .tuple #[.agg #[.int .i64 3, .int .i64 268, .int .i64 269, .int .i64 0], .int .i64 0], 823, [], 819⟩
def Bt3L : List Fact := [Bt3_0, Bt3_1, Bt3_2, Bt3_3, Bt3_4, Bt3_5, Bt3_6, Bt3_7, Bt3_8, Bt3_9, Bt3_10, Bt3_11, Bt3_12, Bt3_13, Bt3_14, Bt3_15, Bt3_16, Bt3_17, Bt3_18, Bt3_19, Bt3_20, Bt3_21, Bt3_22, Bt3_23, Bt3_24, Bt3_25, Bt3_26, Bt3_27, Bt3_28, Bt3_29]
theorem Bt3L_ok : AllOk Bt3L := AllOk.seq Bt2A_ok (by kernel_rfl)
def Bt3A : List Fact := Bt3L ++ Bt2A
theorem Bt3A_ok : AllOk Bt3A := Bt3L_ok.append Bt2A_ok
end Ev
end Go.Proofs.YtbhjopjonoldmaaGreat
