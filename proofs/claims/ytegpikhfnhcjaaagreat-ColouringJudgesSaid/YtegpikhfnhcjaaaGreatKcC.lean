/- Long texts of the facts. Printed by wip/facts4.py. -/
import Derived.Test.YtegpikhfnhcjaaaGreatRvZ
import Derived.Test.YtegpikhfnhcjaaaGreatRvR
namespace Go.Proofs.YtegpikhfnhcjaaaGreat
namespace Ev
open Go
set_option maxRecDepth 1000000
def Kctxt0 : ByteArray := by8 [112, 114, 111, 103, 114, 97, 109, 32, 99, 111, 108, 111, 117, 114, 105, 110, 103, 59, 10, 118, 97, 114, 32, 99, 32, 58, 32, 48, 32, 46, 46, 32, 110, 59, 10, 114, 117, 108, 101, 32, 102, 105, 120, 58, 32, 115, 111, 109, 101, 40, 113, 46, 99, 32, 61, 61, 32, 99, 41, 32, 45, 62, 32, 99, 32, 58, 61, 32, 109, 101, 120, 40, 113, 46, 99, 41, 59, 10]
def Kcrow1 : List Value := [.int .i64 1, .int .i64 0, .int .i64 7, .int .i64 0, .int .i64 1, .int .i64 8, .int .i64 17, .int .i64 0, .int .i64 3, .int .i64 17, .int .i64 18, .int .i64 0, .int .i64 1, .int .i64 19, .int .i64 22, .int .i64 0, .int .i64 1, .int .i64 23, .int .i64 24, .int .i64 0, .int .i64 3, .int .i64 25, .int .i64 26, .int .i64 0, .int .i64 2, .int .i64 27, .int .i64 28, .int .i64 0, .int .i64 3, .int .i64 29, .int .i64 31, .int .i64 0, .int .i64 1, .int .i64 32, .int .i64 33, .int .i64 0, .int .i64 3, .int .i64 33, .int .i64 34, .int .i64 0, .int .i64 1, .int .i64 35, .int .i64 39, .int .i64 0, .int .i64 1, .int .i64 40, .int .i64 43, .int .i64 0, .int .i64 3, .int .i64 43, .int .i64 44, .int .i64 0, .int .i64 1, .int .i64 45, .int .i64 49, .int .i64 0, .int .i64 3, .int .i64 49, .int .i64 50, .int .i64 0, .int .i64 1, .int .i64 50, .int .i64 51, .int .i64 0, .int .i64 3, .int .i64 51, .int .i64 52, .int .i64 0, .int .i64 1, .int .i64 52, .int .i64 53, .int .i64 0, .int .i64 3, .int .i64 54, .int .i64 56, .int .i64 0, .int .i64 1, .int .i64 57, .int .i64 58, .int .i64 0, .int .i64 3, .int .i64 58, .int .i64 59, .int .i64 0, .int .i64 3, .int .i64 60, .int .i64 62, .int .i64 0, .int .i64 1, .int .i64 63, .int .i64 64, .int .i64 0, .int .i64 3, .int .i64 65, .int .i64 67, .int .i64 0, .int .i64 1, .int .i64 68, .int .i64 71, .int .i64 0, .int .i64 3, .int .i64 71, .int .i64 72, .int .i64 0, .int .i64 1, .int .i64 72, .int .i64 73, .int .i64 0, .int .i64 3, .int .i64 73, .int .i64 74, .int .i64 0, .int .i64 1, .int .i64 74, .int .i64 75, .int .i64 0, .int .i64 3, .int .i64 75, .int .i64 76, .int .i64 0, .int .i64 3, .int .i64 76, .int .i64 77, .int .i64 0]
def Kcb0 : BlkL := ⟨314, 170, 2, [.int .i64 35, .int .i64 0, .int .i64 12, .int .i64 0, .int .i64 5, .int .i64 0]⟩
def Kcb1 : BlkL := ⟨321, 170, 2, [.int .i64 21, .int .i64 0, .int .i64 35, .int .i64 0, .int .i64 12, .int .i64 0, .int .i64 5, .int .i64 0]⟩
def Kcb2 : BlkL := ⟨357, 170, 2, [.int .i64 27, .int .i64 0, .int .i64 12, .int .i64 0]⟩
def Kcb3 : BlkL := ⟨364, 138, 2, [.int .i64 0, .slice (some ⟨357, 0, none⟩) 2 CU]⟩
def Kcb4 : BlkL := ⟨7, 49, 1, [.slice (some ⟨31, 0, none⟩) 2 CU, .slice (some ⟨43, 0, none⟩) 2 CU, .slice (some ⟨45, 0, none⟩) 2 CU]⟩
def Kcb5 : BlkL := ⟨14, 3, 1, [.int .i64 0, .int .i64 1, .int .i64 2]⟩
def Kcb6 : BlkL := ⟨31, 51, 2, [.int .i64 1, .int .i64 1, .int .i64 2, .int .i64 1]⟩
def Kcb7 : BlkL := ⟨43, 51, 2, [.int .i64 0, .int .i64 1, .int .i64 2, .int .i64 1]⟩
def Kcb8 : BlkL := ⟨45, 51, 2, [.int .i64 0, .int .i64 1, .int .i64 1, .int .i64 1]⟩
def Kcb9 : BlkL := ⟨490, 22, 1, [.slice (some ⟨487, 0, none⟩) 1 1, .slice (some ⟨488, 0, none⟩) 1 1, .slice (some ⟨489, 0, none⟩) 1 1]⟩
def Kcb10 : BlkL := ⟨758, 22, 1, [.slice (some ⟨775, 0, none⟩) 1 CU, .slice (some ⟨760, 0, none⟩) 1 CU, .slice (some ⟨761, 0, none⟩) 1 CU]⟩
end Ev
end Go.Proofs.YtegpikhfnhcjaaaGreat
