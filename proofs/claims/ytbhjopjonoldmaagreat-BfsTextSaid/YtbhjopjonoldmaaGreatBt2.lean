/- Facts: selfstab/lexer.next. Printed by wip/facts.py. -/
import Derived.Test.YtbhjopjonoldmaaGreatBt1
namespace Go.Proofs.YtbhjopjonoldmaaGreat
namespace Ev
open Go
set_option maxRecDepth 1000000
def Bt2_0 : Fact := ⟨73, [.string Bttxt0, .int .i64 157], 418, [], .tuple #[.agg #[.int .i64 2, .int .i64 157, .int .i64 158, .int .i64 1], .int .i64 0], 421, [], 418⟩
def Bt2_1 : Fact := ⟨73, [.string Bttxt0, .int .i64 159], 424, [], .tuple #[.agg #[.int .i64 3, .int .i64 159, .int .i64 160, .int .i64 0], .int .i64 0], 428, [], 424⟩
def Bt2_2 : Fact := ⟨73, [.string Bttxt0, .int .i64 161], 431, [], .tuple #[.agg #[.int .i64 1, .int .i64 161, .int .i64 162, .int .i64 0], .int .i64 0], 434, [], 431⟩
def Bt2_3 : Fact := ⟨73, [.string Bttxt0, .int .i64 162], 437, [], .tuple #[.agg #[.int .i64 3, .int .i64 162, .int .i64 163, .int .i64 0], .int .i64 0], 441, [], 437⟩
def Bt2_4 : Fact := ⟨73, [.string Bttxt0, .int .i64 164], 444, [], .tuple #[.agg #[.int .i64 3, .int .i64 164, .int .i64 166, .int .i64 0], .int .i64 0], 448, [], 444⟩
def Bt2_5 : Fact := ⟨73, [.string Bttxt0, .int .i64 167], 451, [], .tuple #[.agg #[.int .i64 1, .int .i64 167, .int .i64 168, .int .i64 0], .int .i64 0], 454, [], 451⟩
def Bt2_6 : Fact := ⟨73, [.string Bttxt0, .int .i64 169], 457, [], .tuple #[.agg #[.int .i64 3, .int .i64 169, .int .i64 171, .int .i64 0], .int .i64 0], 461, [], 457⟩
def Bt2_7 : Fact := ⟨73, [.string Bttxt0, .int .i64 172], 464, [], .tuple #[.agg #[.int .i64 1, .int .i64 172, .int .i64 177, .int .i64 0], .int .i64 0], 467, [], 464⟩
def Bt2_8 : Fact := ⟨73, [.string Bttxt0, .int .i64 177], 470, [], .tuple #[.agg #[.int .i64 3, .int .i64 177, .int .i64 178, .int .i64 0], .int .i64 0], 474, [], 470⟩
def Bt2_9 : Fact := ⟨73, [.string Bttxt0, .int .i64 178], 477, [], .tuple #[.agg #[.int .i64 1, .int .i64 178, .int .i64 179, .int .i64 0], .int .i64 0], 480, [], 477⟩
def Bt2_10 : Fact := ⟨73, [.string Bttxt0, .int .i64 179], 483, [], .tuple #[.agg #[.int .i64 3, .int .i64 179, .int .i64 180, .int .i64 0], .int .i64 0], 487, [], 483⟩
def Bt2_11 : Fact := ⟨73, [.string Bttxt0, .int .i64 180], 490, [], .tuple #[.agg #[.int .i64 1, .int .i64 180, .int .i64 181, .int .i64 0], .int .i64 0], 493, [], 490⟩
def Bt2_12 : Fact := ⟨73, [.string Bttxt0, .int .i64 182], 496, [], .tuple #[.agg #[.int .i64 3, .int .i64 182, .int .i64 184, .int .i64 0], .int .i64 0], 500, [], 496⟩
def Bt2_13 : Fact := ⟨73, [.string Bttxt0, .int .i64 185], 503, [], .tuple #[.agg #[.int .i64 1, .int .i64 185, .int .i64 188, .int .i64 0], .int .i64 0], 506, [], 503⟩
def Bt2_14 : Fact := ⟨73, [.string Bttxt0, .int .i64 188], 509, [], .tuple #[.agg #[.int .i64 3, .int .i64 188, .int .i64 189, .int .i64 0], .int .i64 0], 513, [], 509⟩
def Bt2_15 : Fact := ⟨73, [.string Bttxt0, .int .i64 189], 516, [], .tuple #[.agg #[.int .i64 1, .int .i64 189, .int .i64 190, .int .i64 0], .int .i64 0], 519, [], 516⟩
def Bt2_16 : Fact := ⟨73, [.string Bttxt0, .int .i64 190], 522, [], .tuple #[.agg #[.int .i64 3, .int .i64 190, .int .i64 191, .int .i64 0], .int .i64 0], 526, [], 522⟩
def Bt2_17 : Fact := ⟨73, [.string Bttxt0, .int .i64 191], 529, [], .tuple #[.agg #[.int .i64 1, .int .i64 191, .int .i64 192, .int .i64 0], .int .i64 0], 532, [], 529⟩
def Bt2_18 : Fact := ⟨73, [.string Bttxt0, .int .i64 192], 535, [], .tuple #[.agg #[.int .i64 3, .int .i64 192, .int .i64 193, .int .i64 0], .int .i64 0], 539, [], 535⟩
def Bt2_19 : Fact := ⟨73, [.string Bttxt0, .int .i64 193], 542, [], .tuple #[.agg #[.int .i64 3, .int .i64 193, .int .i64 194, .int .i64 0], .int .i64 0], 546, [], 542⟩
def Bt2_20 : Fact := ⟨73, [.string Bttxt0, .int .i64 194], 549, [], .tuple #[.agg #[.int .i64 3, .int .i64 194, .int .i64 195, .int .i64 0], .int .i64 0], 553, [], 549⟩
def Bt2_21 : Fact := ⟨73, [.string Bttxt0, .int .i64 198], 556, [], .tuple #[.agg #[.int .i64 3, .int .i64 198, .int .i64 200, .int .i64 0], .int .i64 0], 560, [], 556⟩
def Bt2_22 : Fact := ⟨73, [.string Bttxt0, .int .i64 201], 563, [], .tuple #[.agg #[.int .i64 1, .int .i64 201, .int .i64 202, .int .i64 0], .int .i64 0], 566, [], 563⟩
def Bt2_23 : Fact := ⟨73, [.string Bttxt0, .int .i64 203], 569, [], .tuple #[.agg #[.int .i64 3, .int .i64 203, .int .i64 205, .int .i64 0], .int .i64 0], 573, [], 569⟩
def Bt2_24 : Fact := ⟨73, [.string Bttxt0, .int .i64 206], 576, [], .tuple #[.agg #[.int .i64 3, .int .i64 206, .int .i64 207, .int .i64 0], .int .i64 0], 580, [], 576⟩
def Bt2_25 : Fact := ⟨73, [.string Bttxt0, .int .i64 207], 583, [], .tuple #[.agg #[.int .i64 1, .int .i64 207, .int .i64 210, .int .i64 0], .int .i64 0], 586, [], 583⟩
def Bt2_26 : Fact := ⟨73, [.string Bttxt0, .int .i64 210], 589, [], .tuple #[.agg #[.int .i64 3, .int .i64 210, .int .i64 211, .int .i64 0], .int .i64 0], 593, [], 589⟩
def Bt2_27 : Fact := ⟨73, [.string Bttxt0, .int .i64 211], 596, [], .tuple #[.agg #[.int .i64 1, .int .i64 211, .int .i64 212, .int .i64 0], .int .i64 0], 599, [], 596⟩
def Bt2_28 : Fact := ⟨73, [.string Bttxt0, .int .i64 212], 602, [], .tuple #[.agg #[.int .i64 3, .int .i64 212, .int .i64 213, .int .i64 0], .int .i64 0], 606, [], 602⟩
def Bt2_29 : Fact := ⟨73, [.string Bttxt0, .int .i64 213], 609, [], .tuple #[.agg #[.int .i64 1, .int .i64 213, .int .i64 214, .int .i64 0], .int .i64 0], 612, [], 609⟩
def Bt2_30 : Fact := ⟨73, [.string Bttxt0, .int .i64 214], 615, [], .tuple #[.agg #[.int .i64 3, .int .i64 214, .int .i64 215, .int .i64 0], .int .i64 0], 619, [], 615⟩
def Bt2_31 : Fact := ⟨73, [.string Bttxt0, .int .i64 216], 622, [], .tuple #[.agg #[.int .i64 3, .int .i64 216, .int .i64 217, .int .i64 0], .int .i64 0], 626, [], 622⟩
def Bt2L : List Fact := [Bt2_0, Bt2_1, Bt2_2, Bt2_3, Bt2_4, Bt2_5, Bt2_6, Bt2_7, Bt2_8, Bt2_9, Bt2_10, Bt2_11, Bt2_12, Bt2_13, Bt2_14, Bt2_15, Bt2_16, Bt2_17, Bt2_18, Bt2_19, Bt2_20, Bt2_21, Bt2_22, Bt2_23, Bt2_24, Bt2_25, Bt2_26, Bt2_27, Bt2_28, Bt2_29, Bt2_30, Bt2_31]
theorem Bt2L_ok : AllOk Bt2L := AllOk.seq Bt1A_ok (by kernel_rfl)
def Bt2A : List Fact := Bt2L ++ Bt1A
theorem Bt2A_ok : AllOk Bt2A := Bt2L_ok.append Bt1A_ok
end Ev
end Go.Proofs.YtbhjopjonoldmaaGreat
