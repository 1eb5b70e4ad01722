/- Facts: selfstab/lexer.next. Printed by wip/facts.py. -/
import Derived.Test.YtbhjopjonoldmaaGreatBt0
namespace Go.Proofs.YtbhjopjonoldmaaGreat
namespace Ev
open Go
set_option maxRecDepth 1000000
def Bt1_0 : Fact := ⟨73, [.string Bttxt0, .int .i64 91], 208, [], .tuple #[.agg #[.int .i64 2, .int .i64 91, .int .i64 92, .int .i64 0], .int .i64 0], 211, [], 208⟩
def Bt1_1 : Fact := ⟨73, [.string Bttxt0, .int .i64 92], 214, [], .tuple #[.agg #[.int .i64 3, .int .i64 92, .int .i64 93, .int .i64 0], .int .i64 0], 218, [], 214⟩
def Bt1_2 : Fact := ⟨73, [.string Bttxt0, .int .i64 94], 221, [], .tuple #[.agg #[.int .i64 1, .int .i64 94, .int .i64 95, .int .i64 0], .int .i64 0], 224, [], 221⟩
def Bt1_3 : Fact := ⟨73, [.string Bttxt0, .int .i64 96], 227, [], .tuple #[.agg #[.int .i64 3, .int .i64 96, .int .i64 98, .int .i64 0], .int .i64 0], 231, [], 227⟩
def Bt1_4 : Fact := ⟨73, [.string Bttxt0, .int .i64 99], 234, [], .tuple #[.agg #[.int .i64 1, .int .i64 99, .int .i64 103, .int .i64 0], .int .i64 0], 237, [], 234⟩
def Bt1_5 : Fact := ⟨73, [.string Bttxt0, .int .i64 103], 240, [], .tuple #[.agg #[.int .i64 3, .int .i64 103, .int .i64 104, .int .i64 0], .int .i64 0], 244, [], 240⟩
def Bt1_6 : Fact := ⟨73, [.string Bttxt0, .int .i64 105], 247, [], .tuple #[.agg #[.int .i64 1, .int .i64 105, .int .i64 109, .int .i64 0], .int .i64 0], 250, [], 247⟩
def Bt1_7 : Fact := ⟨73, [.string Bttxt0, .int .i64 110], 253, [], .tuple #[.agg #[.int .i64 1, .int .i64 110, .int .i64 113, .int .i64 0], .int .i64 0], 256, [], 253⟩
def Bt1_8 : Fact := ⟨73, [.string Bttxt0, .int .i64 113], 259, [], .tuple #[.agg #[.int .i64 3, .int .i64 113, .int .i64 114, .int .i64 0], .int .i64 0], 263, [], 259⟩
def Bt1_9 : Fact := ⟨73, [.string Bttxt0, .int .i64 115], 266, [], .tuple #[.agg #[.int .i64 3, .int .i64 115, .int .i64 116, .int .i64 0], .int .i64 0], 270, [], 266⟩
def Bt1_10 : Fact := ⟨73, [.string Bttxt0, .int .i64 116], 273, [], .tuple #[.agg #[.int .i64 1, .int .i64 116, .int .i64 120, .int .i64 0], .int .i64 0], 276, [], 273⟩
def Bt1_11 : Fact := ⟨73, [.string Bttxt0, .int .i64 121], 279, [], .tuple #[.agg #[.int .i64 3, .int .i64 121, .int .i64 123, .int .i64 0], .int .i64 0], 283, [], 279⟩
def Bt1_12 : Fact := ⟨73, [.string Bttxt0, .int .i64 124], 286, [], .tuple #[.agg #[.int .i64 3, .int .i64 124, .int .i64 125, .int .i64 0], .int .i64 0], 290, [], 286⟩
def Bt1_13 : Fact := ⟨73, [.string Bttxt0, .int .i64 125], 293, [], .tuple #[.agg #[.int .i64 1, .int .i64 125, .int .i64 126, .int .i64 0], .int .i64 0], 296, [], 293⟩
def Bt1_14 : Fact := ⟨73, [.string Bttxt0, .int .i64 127], 299, [], .tuple #[.agg #[.int .i64 3, .int .i64 127, .int .i64 129, .int .i64 0], .int .i64 0], 303, [], 299⟩
def Bt1_15 : Fact := ⟨73, [.string Bttxt0, .int .i64 130], 306, [], .tuple #[.agg #[.int .i64 3, .int .i64 130, .int .i64 131, .int .i64 0], .int .i64 0], 310, [], 306⟩
def Bt1_16 : Fact := ⟨73, [.string Bttxt0, .int .i64 131], 313, [], .tuple #[.agg #[.int .i64 1, .int .i64 131, .int .i64 134, .int .i64 0], .int .i64 0], 316, [], 313⟩
def Bt1_17 : Fact := ⟨73, [.string Bttxt0, .int .i64 134], 319, [], .tuple #[.agg #[.int .i64 3, .int .i64 134, .int .i64 135, .int .i64 0], .int .i64 0], 323, [], 319⟩
def Bt1_18 : Fact := ⟨73, [.string Bttxt0, .int .i64 135], 326, [], .tuple #[.agg #[.int .i64 1, .int .i64 135, .int .i64 136, .int .i64 0], .int .i64 0], 329, [], 326⟩
def Bt1_19 : Fact := ⟨73, [.string Bttxt0, .int .i64 136], 332, [], .tuple #[.agg #[.int .i64 3, .int .i64 136, .int .i64 137, .int .i64 0], .int .i64 0], 336, [], 332⟩
def Bt1_20 : Fact := ⟨73, [.string Bttxt0, .int .i64 137], 339, [], .tuple #[.agg #[.int .i64 1, .int .i64 137, .int .i64 138, .int .i64 0], .int .i64 0], 342, [], 339⟩
def Bt1_21 : Fact := ⟨73, [.string Bttxt0, .int .i64 138], 345, [], .tuple #[.agg #[.int .i64 3, .int .i64 138, .int .i64 139, .int .i64 0], .int .i64 0], 349, [], 345⟩
def Bt1_22 : Fact := ⟨73, [.string Bttxt0, .int .i64 140], 352, [], .tuple #[.agg #[.int .i64 3, .int .i64 140, .int .i64 141, .int .i64 0], .int .i64 0], 356, [], 352⟩
def Bt1_23 : Fact := ⟨73, [.string Bttxt0, .int .i64 142], 359, [], .tuple #[.agg #[.int .i64 1, .int .i64 142, .int .i64 143, .int .i64 0], .int .i64 0], 362, [], 359⟩
def Bt1_24 : Fact := ⟨73, [.string Bttxt0, .int .i64 144], 365, [], .tuple #[.agg #[.int .i64 3, .int .i64 144, .int .i64 145, .int .i64 0], .int .i64 0], 369, [], 365⟩
def Bt1_25 : Fact := ⟨73, [.string Bttxt0, .int .i64 146], 372, [], .tuple #[.agg #[.int .i64 1, .int .i64 146, .int .i64 149, .int .i64 0], .int .i64 0], 375, [], 372⟩
def Bt1_26 : Fact := ⟨73, [.string Bttxt0, .int .i64 149], 378, [], .tuple #[.agg #[.int .i64 3, .int .i64 149, .int .i64 150, .int .i64 0], .int .i64 0], 382, [], 378⟩
def Bt1_27 : Fact := ⟨73, [.string Bttxt0, .int .i64 150], 385, [], .tuple #[.agg #[.int .i64 1, .int .i64 150, .int .i64 151, .int .i64 0], .int .i64 0], 388, [], 385⟩
def Bt1_28 : Fact := ⟨73, [.string Bttxt0, .int .i64 151], 391, [], .tuple #[.agg #[.int .i64 3, .int .i64 151, .int .i64 152, .int .i64 0], .int .i64 0], 395, [], 391⟩
def Bt1_29 : Fact := ⟨73, [.string Bttxt0, .int .i64 152], 398, [], .tuple #[.agg #[.int .i64 1, .int .i64 152, .int .i64 153, .int .i64 0], .int .i64 0], 401, [], 398⟩
def Bt1_30 : Fact := ⟨73, [.string Bttxt0, .int .i64 153], 404, [], .tuple #[.agg #[.int .i64 3, .int .i64 153, .int .i64 154, .int .i64 0], .int .i64 0], 408, [], 404⟩
def Bt1_31 : Fact := ⟨73, [.string Bttxt0, .int .i64 155], 411, [], .tuple #[.agg #[.int .i64 3, .int .i64 155, .int .i64 156, .int .i64 0], .int .i64 0], 415, [], 411⟩
def Bt1L : List Fact := [Bt1_0, Bt1_1, Bt1_2, Bt1_3, Bt1_4, Bt1_5, Bt1_6, Bt1_7, Bt1_8, Bt1_9, Bt1_10, Bt1_11, Bt1_12, Bt1_13, Bt1_14, Bt1_15, Bt1_16, Bt1_17, Bt1_18, Bt1_19, Bt1_20, Bt1_21, Bt1_22, Bt1_23, Bt1_24, Bt1_25, Bt1_26, Bt1_27, Bt1_28, Bt1_29, Bt1_30, Bt1_31]
theorem Bt1L_ok : AllOk Bt1L := AllOk.seq Bt0A_ok (by kernel_rfl)
def Bt1A : List Fact := Bt1L ++ Bt0A
theorem Bt1A_ok : AllOk Bt1A := Bt1L_ok.append Bt0A_ok
end Ev
end Go.Proofs.YtbhjopjonoldmaaGreat
