/- Facts: selfstab/lexer.next. Printed by wip/facts.py. -/
import Derived.Test.YtbhjopjonoldmaaGreatEvZ
namespace Go.Proofs.YtbhjopjonoldmaaGreat
namespace Ev
open Go
set_option maxRecDepth 1000000
def Bttxt0 : ByteArray := by8 [112, 114, 111, 103, 114, 97, 109, 32, 98, 102, 115, 59, 10, 118, 97, 114, 32, 100, 32, 58, 32, 48, 32, 46, 46, 32, 110, 59, 10, 118, 97, 114, 32, 112, 32, 58, 32, 112, 111, 114, 116, 59, 10, 114, 117, 108, 101, 32, 116, 111, 112, 58, 32, 114, 111, 111, 116, 32, 38, 38, 32, 40, 100, 32, 33, 61, 32, 48, 32, 124, 124, 32, 112, 32, 33, 61, 32, 110, 111, 110, 101, 41, 32, 45, 62, 32, 100, 32, 58, 61, 32, 48, 44, 32, 112, 32, 58, 61, 32, 110, 111, 110, 101, 59, 10, 114, 117, 108, 101, 32, 108, 111, 119, 58, 32, 33, 114, 111, 111, 116, 32, 38, 38, 32, 40, 100, 32, 33, 61, 32, 40, 109, 105, 110, 40, 113, 46, 100, 41, 32, 60, 32, 110, 32, 63, 32, 109, 105, 110, 40, 113, 46, 100, 41, 32, 43, 32, 49, 32, 58, 32, 110, 41, 32, 124, 124, 32, 112, 32, 33, 61, 32, 102, 105, 114, 115, 116, 40, 113, 46, 100, 32, 61, 61, 32, 109, 105, 110, 40, 113, 46, 100, 41, 41, 41, 10, 32, 32, 45, 62, 32, 100, 32, 58, 61, 32, 40, 109, 105, 110, 40, 113, 46, 100, 41, 32, 60, 32, 110, 32, 63, 32, 109, 105, 110, 40, 113, 46, 100, 41, 32, 43, 32, 49, 32, 58, 32, 110, 41, 44, 32, 112, 32, 58, 61, 32, 102, 105, 114, 115, 116, 40, 113, 46, 100, 32, 61, 61, 32, 109, 105, 110, 40, 113, 46, 100, 41, 41, 59, 10]
def Bt0_0 : Fact := ⟨73, [.string Bttxt0, .int .i64 0], 1, [], .tuple #[.agg #[.int .i64 1, .int .i64 0, .int .i64 7, .int .i64 0], .int .i64 0], 4, [], 1⟩
def Bt0_1 : Fact := ⟨73, [.string Bttxt0, .int .i64 8], 7, [], .tuple #[.agg #[.int .i64 1, .int .i64 8, .int .i64 11, .int .i64 0], .int .i64 0], 10, [], 7⟩
def Bt0_2 : Fact := ⟨73, [.string Bttxt0, .int .i64 11], 13, [], .tuple #[.agg #[.int .i64 3, .int .i64 11, .int .i64 12, .int .i64 0], .int .i64 0], 17, [], 13⟩
def Bt0_3 : Fact := ⟨73, [.string Bttxt0, .int .i64 13], 20, [], .tuple #[.agg #[.int .i64 1, .int .i64 13, .int .i64 16, .int .i64 0], .int .i64 0], 23, [], 20⟩
def Bt0_4 : Fact := ⟨73, [.string Bttxt0, .int .i64 17], 26, [], .tuple #[.agg #[.int .i64 1, .int .i64 17, .int .i64 18, .int .i64 0], .int .i64 0], 29, [], 26⟩
def Bt0_5 : Fact := ⟨73, [.string Bttxt0, .int .i64 19], 32, [], .tuple #[.agg #[.int .i64 3, .int .i64 19, .int .i64 20, .int .i64 0], .int .i64 0], 36, [], 32⟩
def Bt0_6 : Fact := ⟨73, [.string Bttxt0, .int .i64 21], 39, [], .tuple #[.agg #[.int .i64 2, .int .i64 21, .int .i64 22, .int .i64 0], .int .i64 0], 42, [], 39⟩
def Bt0_7 : Fact := ⟨73, [.string Bttxt0, .int .i64 23], 45, [], .tuple #[.agg #[.int .i64 3, .int .i64 23, .int .i64 25, .int .i64 0], .int .i64 0], 49, [], 45⟩
def Bt0_8 : Fact := ⟨73, [.string Bttxt0, .int .i64 26], 52, [], .tuple #[.agg #[.int .i64 1, .int .i64 26, .int .i64 27, .int .i64 0], .int .i64 0], 55, [], 52⟩
def Bt0_9 : Fact := ⟨73, [.string Bttxt0, .int .i64 27], 58, [], .tuple #[.agg #[.int .i64 3, .int .i64 27, .int .i64 28, .int .i64 0], .int .i64 0], 62, [], 58⟩
def Bt0_10 : Fact := ⟨73, [.string Bttxt0, .int .i64 29], 65, [], .tuple #[.agg #[.int .i64 1, .int .i64 29, .int .i64 32, .int .i64 0], .int .i64 0], 68, [], 65⟩
def Bt0_11 : Fact := ⟨73, [.string Bttxt0, .int .i64 33], 71, [], .tuple #[.agg #[.int .i64 1, .int .i64 33, .int .i64 34, .int .i64 0], .int .i64 0], 74, [], 71⟩
def Bt0_12 : Fact := ⟨73, [.string Bttxt0, .int .i64 35], 77, [], .tuple #[.agg #[.int .i64 3, .int .i64 35, .int .i64 36, .int .i64 0], .int .i64 0], 81, [], 77⟩
def Bt0_13 : Fact := ⟨73, [.string Bttxt0, .int .i64 37], 84, [], .tuple #[.agg #[.int .i64 1, .int .i64 37, .int .i64 41, .int .i64 0], .int .i64 0], 87, [], 84⟩
def Bt0_14 : Fact := ⟨73, [.string Bttxt0, .int .i64 41], 90, [], .tuple #[.agg #[.int .i64 3, .int .i64 41, .int .i64 42, .int .i64 0], .int .i64 0], 94, [], 90⟩
def Bt0_15 : Fact := ⟨73, [.string Bttxt0, .int .i64 43], 97, [], .tuple #[.agg #[.int .i64 1, .int .i64 43, .int .i64 47, .int .i64 0], .int .i64 0], 100, [], 97⟩
def Bt0_16 : Fact := ⟨73, [.string Bttxt0, .int .i64 48], 103, [], .tuple #[.agg #[.int .i64 1, .int .i64 48, .int .i64 51, .int .i64 0], .int .i64 0], 106, [], 103⟩
def Bt0_17 : Fact := ⟨73, [.string Bttxt0, .int .i64 51], 109, [], .tuple #[.agg #[.int .i64 3, .int .i64 51, .int .i64 52, .int .i64 0], .int .i64 0], 113, [], 109⟩
def Bt0_18 : Fact := ⟨73, [.string Bttxt0, .int .i64 53], 116, [], .tuple #[.agg #[.int .i64 1, .int .i64 53, .int .i64 57, .int .i64 0], .int .i64 0], 119, [], 116⟩
def Bt0_19 : Fact := ⟨73, [.string Bttxt0, .int .i64 58], 122, [], .tuple #[.agg #[.int .i64 3, .int .i64 58, .int .i64 60, .int .i64 0], .int .i64 0], 126, [], 122⟩
def Bt0_20 : Fact := ⟨73, [.string Bttxt0, .int .i64 61], 129, [], .tuple #[.agg #[.int .i64 3, .int .i64 61, .int .i64 62, .int .i64 0], .int .i64 0], 133, [], 129⟩
def Bt0_21 : Fact := ⟨73, [.string Bttxt0, .int .i64 62], 136, [], .tuple #[.agg #[.int .i64 1, .int .i64 62, .int .i64 63, .int .i64 0], .int .i64 0], 139, [], 136⟩
def Bt0_22 : Fact := ⟨73, [.string Bttxt0, .int .i64 64], 142, [], .tuple #[.agg #[.int .i64 3, .int .i64 64, .int .i64 66, .int .i64 0], .int .i64 0], 146, [], 142⟩
def Bt0_23 : Fact := ⟨73, [.string Bttxt0, .int .i64 67], 149, [], .tuple #[.agg #[.int .i64 2, .int .i64 67, .int .i64 68, .int .i64 0], .int .i64 0], 152, [], 149⟩
def Bt0_24 : Fact := ⟨73, [.string Bttxt0, .int .i64 69], 155, [], .tuple #[.agg #[.int .i64 3, .int .i64 69, .int .i64 71, .int .i64 0], .int .i64 0], 159, [], 155⟩
def Bt0_25 : Fact := ⟨73, [.string Bttxt0, .int .i64 72], 162, [], .tuple #[.agg #[.int .i64 1, .int .i64 72, .int .i64 73, .int .i64 0], .int .i64 0], 165, [], 162⟩
def Bt0_26 : Fact := ⟨73, [.string Bttxt0, .int .i64 74], 168, [], .tuple #[.agg #[.int .i64 3, .int .i64 74, .int .i64 76, .int .i64 0], .int .i64 0], 172, [], 168⟩
def Bt0_27 : Fact := ⟨73, [.string Bttxt0, .int .i64 77], 175, [], .tuple #[.agg #[.int .i64 1, .int .i64 77, .int .i64 81, .int .i64 0], .int .i64 0], 178, [], 175⟩
def Bt0_28 : Fact := ⟨73, [.string Bttxt0, .int .i64 81], 181, [], .tuple #[.agg #[.int .i64 3, .int .i64 81, .int .i64 82, .int .i64 0], .int .i64 0], 185, [], 181⟩
def Bt0_29 : Fact := ⟨73, [.string Bttxt0, .int .i64 83], 188, [], .tuple #[.agg #[.int .i64 3, .int .i64 83, .int .i64 85, .int .i64 0], .int .i64 0], 192, [], 188⟩
def Bt0_30 : Fact := ⟨73, [.string Bttxt0, .int .i64 86], 195, [], .tuple #[.agg #[.int .i64 1, .int .i64 86, .int .i64 87, .int .i64 0], .int .i64 0], 198, [], 195⟩
def Bt0_31 : Fact := ⟨73, [.string Bttxt0, .int .i64 88], 201, [], .tuple #[.agg #[.int .i64 3, .int .i64 88, .int .i64 90, .int .i64 0], .int .i64 0], 205, [], 201⟩
def Bt0L : List Fact := [Bt0_0, Bt0_1, Bt0_2, Bt0_3, Bt0_4, Bt0_5, Bt0_6, Bt0_7, Bt0_8, Bt0_9, Bt0_10, Bt0_11, Bt0_12, Bt0_13, Bt0_14, Bt0_15, Bt0_16, Bt0_17, Bt0_18, Bt0_19, Bt0_20, Bt0_21, Bt0_22, Bt0_23, Bt0_24, Bt0_25, Bt0_26, Bt0_27, Bt0_28, Bt0_29, Bt0_30, Bt0_31]
theorem Bt0L_ok : AllOk Bt0L := AllOk.seq AllOk.nil (by kernel_rfl)
def Bt0A : List Fact := Bt0L ++ []
theorem Bt0A_ok : AllOk Bt0A := Bt0L_ok.append AllOk.nil
end Ev
end Go.Proofs.YtbhjopjonoldmaaGreat
