/- Facts. Printed by wip/facts3.py. -/
import Derived.Test.YtbhjopjonoldmaaGreatLtC
namespace Go.Proofs.YtbhjopjonoldmaaGreat
namespace Ev
open Go
set_option maxRecDepth 1000000
/- selfstab/lexer.skip -/
def Ltg10_0 : Fact := ⟨72, [.string Lttxt0, .int .i64 279], 755, [], .int .i64 280, 755, [], 755⟩
/- selfstab/lexer.next -/
def Ltg10_1 : Fact := ⟨73, [.string Lttxt0, .int .i64 280], 755, [], .tuple #[.agg #[.int .i64 2, .int .i64 280, .int .i64 281, .int .i64 1], .int .i64 0], 758, [], 755⟩
/- selfstab/lexer.next -/
def Ltg10_2 : Fact := ⟨73, [.string Lttxt0, .int .i64 281], 761, [], .tuple #[.agg #[.int .i64 3, .int .i64 281, .int .i64 282, .int .i64 0], .int .i64 0], 765, [], 761⟩
/- selfstab/lexer.skip -/
def Ltg10_3 : Fact := ⟨72, [.string Lttxt0, .int .i64 282], 768, [], .int .i64 283, 768, [], 768⟩
/- selfstab/lexer.next -/
def Ltg10_4 : Fact := ⟨73, [.string Lttxt0, .int .i64 283], 768, [], .tuple #[.agg #[.int .i64 3, .int .i64 283, .int .i64 284, .int .i64 0], .int .i64 0], 772, [], 768⟩
/- selfstab/lexer.skip -/
def Ltg10_5 : Fact := ⟨72, [.string Lttxt0, .int .i64 284], 775, [], .int .i64 285, 775, [], 775⟩
/- selfstab/lexer.next -/
def Ltg10_6 : Fact := ⟨73, [.string Lttxt0, .int .i64 285], 775, [], .tuple #[.agg #[.int .i64 1, .int .i64 285, .int .i64 286, .int .i64 0], .int .i64 0], 778, [], 775⟩
/- selfstab/lexer.next -/
def Ltg10_7 : Fact := ⟨73, [.string Lttxt0, .int .i64 286], 781, [], .tuple #[.agg #[.int .i64 3, .int .i64 286, .int .i64 287, .int .i64 0], .int .i64 0], 785, [], 781⟩
/- selfstab/lexer.skip -/
def Ltg10_8 : Fact := ⟨72, [.string Lttxt0, .int .i64 287], 788, [], .int .i64 288, 788, [], 788⟩
/- selfstab/lexer.next -/
def Ltg10_9 : Fact := ⟨73, [.string Lttxt0, .int .i64 288], 788, [], .tuple #[.agg #[.int .i64 3, .int .i64 288, .int .i64 290, .int .i64 0], .int .i64 0], 792, [], 788⟩
/- selfstab/lexer.skip -/
def Ltg10_10 : Fact := ⟨72, [.string Lttxt0, .int .i64 290], 795, [], .int .i64 291, 795, [], 795⟩
/- selfstab/lexer.next -/
def Ltg10_11 : Fact := ⟨73, [.string Lttxt0, .int .i64 291], 795, [], .tuple #[.agg #[.int .i64 3, .int .i64 291, .int .i64 292, .int .i64 0], .int .i64 0], 799, [], 795⟩
/- selfstab/lexer.next -/
def Ltg10_12 : Fact := ⟨73, [.string Lttxt0, .int .i64 292], 802, [], .tuple #[.agg #[.int .i64 1, .int .i64 292, .int .i64 296, .int .i64 0], .int .i64 0], 805, [], 802⟩
/- selfstab/lexer.skip -/
def Ltg10_13 : Fact := ⟨72, [.string Lttxt0, .int .i64 296], 808, [], .int .i64 297, 808, [], 808⟩
/- selfstab/lexer.next -/
def Ltg10_14 : Fact := ⟨73, [.string Lttxt0, .int .i64 297], 808, [], .tuple #[.agg #[.int .i64 3, .int .i64 297, .int .i64 299, .int .i64 0], .int .i64 0], 812, [], 808⟩
/- selfstab/lexer.skip -/
def Ltg10_15 : Fact := ⟨72, [.string Lttxt0, .int .i64 299], 815, [], .int .i64 300, 815, [], 815⟩
/- selfstab/lexer.next -/
def Ltg10_16 : Fact := ⟨73, [.string Lttxt0, .int .i64 300], 815, [], .tuple #[.agg #[.int .i64 1, .int .i64 300, .int .i64 303, .int .i64 0], .int .i64 0], 818, [], 815⟩
/- selfstab/lexer.next -/
def Ltg10_17 : Fact := ⟨73, [.string Lttxt0, .int .i64 303], 821, [], .tuple #[.agg #[.int .i64 3, .int .i64 303, .int .i64 304, .int .i64 0], .int .i64 0], 825, [], 821⟩
/- selfstab/lexer.next -/
def Ltg10_18 : Fact := ⟨73, [.string Lttxt0, .int .i64 304], 828, [], .tuple #[.agg #[.int .i64 1, .int .i64 304, .int .i64 305, .int .i64 0], .int .i64 0], 831, [], 828⟩
/- selfstab/lexer.next -/
def Ltg10_19 : Fact := ⟨73, [.string Lttxt0, .int .i64 305], 834, [], .tuple #[.agg #[.int .i64 3, .int .i64 305, .int .i64 306, .int .i64 0], .int .i64 0], 838, [], 834⟩
def Ltg10L : List Fact := [Ltg10_0, Ltg10_1, Ltg10_2, Ltg10_3, Ltg10_4, Ltg10_5, Ltg10_6, Ltg10_7, Ltg10_8, Ltg10_9, Ltg10_10, Ltg10_11, Ltg10_12, Ltg10_13, Ltg10_14, Ltg10_15, Ltg10_16, Ltg10_17, Ltg10_18, Ltg10_19]
theorem Ltg10L_ok : AllOk Ltg10L := AllOk.seq AllOk.nil (by kernel_rfl)
/- selfstab/lexer.next -/
def Ltg11_0 : Fact := ⟨73, [.string Lttxt0, .int .i64 306], 841, [], .tuple #[.agg #[.int .i64 1, .int .i64 306, .int .i64 307, .int .i64 0], .int .i64 0], 844, [], 841⟩
/- selfstab/lexer.skip -/
def Ltg11_1 : Fact := ⟨72, [.string Lttxt0, .int .i64 307], 847, [], .int .i64 308, 847, [], 847⟩
/- selfstab/lexer.next -/
def Ltg11_2 : Fact := ⟨73, [.string Lttxt0, .int .i64 308], 847, [], .tuple #[.agg #[.int .i64 3, .int .i64 308, .int .i64 309, .int .i64 0], .int .i64 0], 851, [], 847⟩
/- selfstab/lexer.skip -/
def Ltg11_3 : Fact := ⟨72, [.string Lttxt0, .int .i64 309], 854, [], .int .i64 310, 854, [], 854⟩
/- selfstab/lexer.next -/
def Ltg11_4 : Fact := ⟨73, [.string Lttxt0, .int .i64 310], 854, [], .tuple #[.agg #[.int .i64 2, .int .i64 310, .int .i64 311, .int .i64 1], .int .i64 0], 857, [], 854⟩
/- selfstab/lexer.skip -/
def Ltg11_5 : Fact := ⟨72, [.string Lttxt0, .int .i64 311], 860, [], .int .i64 312, 860, [], 860⟩
/- selfstab/lexer.next -/
def Ltg11_6 : Fact := ⟨73, [.string Lttxt0, .int .i64 312], 860, [], .tuple #[.agg #[.int .i64 3, .int .i64 312, .int .i64 313, .int .i64 0], .int .i64 0], 864, [], 860⟩
/- selfstab/lexer.skip -/
def Ltg11_7 : Fact := ⟨72, [.string Lttxt0, .int .i64 313], 867, [], .int .i64 314, 867, [], 867⟩
/- selfstab/lexer.next -/
def Ltg11_8 : Fact := ⟨73, [.string Lttxt0, .int .i64 314], 867, [], .tuple #[.agg #[.int .i64 1, .int .i64 314, .int .i64 315, .int .i64 0], .int .i64 0], 870, [], 867⟩
/- selfstab/lexer.skip -/
def Ltg11_9 : Fact := ⟨72, [.string Lttxt0, .int .i64 315], 873, [], .int .i64 316, 873, [], 873⟩
/- selfstab/lexer.next -/
def Ltg11_10 : Fact := ⟨73, [.string Lttxt0, .int .i64 316], 873, [], .tuple #[.agg #[.int .i64 3, .int .i64 316, .int .i64 317, .int .i64 0], .int .i64 0], 877, [], 873⟩
/- selfstab/lexer.skip -/
def Ltg11_11 : Fact := ⟨72, [.string Lttxt0, .int .i64 317], 880, [], .int .i64 318, 880, [], 880⟩
/- selfstab/lexer.next -/
def Ltg11_12 : Fact := ⟨73, [.string Lttxt0, .int .i64 318], 880, [], .tuple #[.agg #[.int .i64 1, .int .i64 318, .int .i64 319, .int .i64 0], .int .i64 0], 883, [], 880⟩
/- selfstab/lexer.next -/
def Ltg11_13 : Fact := ⟨73, [.string Lttxt0, .int .i64 319], 886, [], .tuple #[.agg #[.int .i64 3, .int .i64 319, .int .i64 320, .int .i64 0], .int .i64 0], 890, [], 886⟩
/- selfstab/lexer.next -/
def Ltg11_14 : Fact := ⟨73, [.string Lttxt0, .int .i64 320], 893, [], .tuple #[.agg #[.int .i64 1, .int .i64 320, .int .i64 324, .int .i64 0], .int .i64 0], 896, [], 893⟩
/- selfstab/lexer.skip -/
def Ltg11_15 : Fact := ⟨72, [.string Lttxt0, .int .i64 324], 899, [], .int .i64 325, 899, [], 899⟩
/- selfstab/lexer.next -/
def Ltg11_16 : Fact := ⟨73, [.string Lttxt0, .int .i64 325], 899, [], .tuple #[.agg #[.int .i64 3, .int .i64 325, .int .i64 326, .int .i64 0], .int .i64 0], 903, [], 899⟩
/- selfstab/lexer.skip -/
def Ltg11_17 : Fact := ⟨72, [.string Lttxt0, .int .i64 326], 906, [], .int .i64 327, 906, [], 906⟩
/- selfstab/lexer.next -/
def Ltg11_18 : Fact := ⟨73, [.string Lttxt0, .int .i64 327], 906, [], .tuple #[.agg #[.int .i64 1, .int .i64 327, .int .i64 328, .int .i64 0], .int .i64 0], 909, [], 906⟩
/- selfstab/lexer.skip -/
def Ltg11_19 : Fact := ⟨72, [.string Lttxt0, .int .i64 328], 912, [], .int .i64 329, 912, [], 912⟩
def Ltg11L : List Fact := [Ltg11_0, Ltg11_1, Ltg11_2, Ltg11_3, Ltg11_4, Ltg11_5, Ltg11_6, Ltg11_7, Ltg11_8, Ltg11_9, Ltg11_10, Ltg11_11, Ltg11_12, Ltg11_13, Ltg11_14, Ltg11_15, Ltg11_16, Ltg11_17, Ltg11_18, Ltg11_19]
theorem Ltg11L_ok : AllOk Ltg11L := AllOk.seq AllOk.nil (by kernel_rfl)
/- selfstab/lexer.next -/
def Ltg12_0 : Fact := ⟨73, [.string Lttxt0, .int .i64 329], 912, [], .tuple #[.agg #[.int .i64 3, .int .i64 329, .int .i64 330, .int .i64 0], .int .i64 0], 916, [], 912⟩
/- selfstab/lexer.skip -/
def Ltg12_1 : Fact := ⟨72, [.string Lttxt0, .int .i64 330], 919, [], .int .i64 331, 919, [], 919⟩
/- selfstab/lexer.next -/
def Ltg12_2 : Fact := ⟨73, [.string Lttxt0, .int .i64 331], 919, [], .tuple #[.agg #[.int .i64 1, .int .i64 331, .int .i64 332, .int .i64 0], .int .i64 0], 922, [], 919⟩
/- selfstab/lexer.next -/
def Ltg12_3 : Fact := ⟨73, [.string Lttxt0, .int .i64 332], 925, [], .tuple #[.agg #[.int .i64 3, .int .i64 332, .int .i64 333, .int .i64 0], .int .i64 0], 929, [], 925⟩
/- selfstab/lexer.next -/
def Ltg12_4 : Fact := ⟨73, [.string Lttxt0, .int .i64 333], 932, [], .tuple #[.agg #[.int .i64 1, .int .i64 333, .int .i64 334, .int .i64 0], .int .i64 0], 935, [], 932⟩
/- selfstab/lexer.skip -/
def Ltg12_5 : Fact := ⟨72, [.string Lttxt0, .int .i64 334], 938, [], .int .i64 335, 938, [], 938⟩
/- selfstab/lexer.next -/
def Ltg12_6 : Fact := ⟨73, [.string Lttxt0, .int .i64 335], 938, [], .tuple #[.agg #[.int .i64 3, .int .i64 335, .int .i64 336, .int .i64 0], .int .i64 0], 942, [], 938⟩
/- selfstab/lexer.skip -/
def Ltg12_7 : Fact := ⟨72, [.string Lttxt0, .int .i64 336], 945, [], .int .i64 337, 945, [], 945⟩
/- selfstab/lexer.next -/
def Ltg12_8 : Fact := ⟨73, [.string Lttxt0, .int .i64 337], 945, [], .tuple #[.agg #[.int .i64 3, .int .i64 337, .int .i64 338, .int .i64 0], .int .i64 0], 949, [], 945⟩
/- selfstab/lexer.next -/
def Ltg12_9 : Fact := ⟨73, [.string Lttxt0, .int .i64 338], 952, [], .tuple #[.agg #[.int .i64 1, .int .i64 338, .int .i64 341, .int .i64 0], .int .i64 0], 955, [], 952⟩
/- selfstab/lexer.skip -/
def Ltg12_10 : Fact := ⟨72, [.string Lttxt0, .int .i64 341], 958, [], .int .i64 342, 958, [], 958⟩
/- selfstab/lexer.next -/
def Ltg12_11 : Fact := ⟨73, [.string Lttxt0, .int .i64 342], 958, [], .tuple #[.agg #[.int .i64 3, .int .i64 342, .int .i64 343, .int .i64 0], .int .i64 0], 962, [], 958⟩
/- selfstab/lexer.skip -/
def Ltg12_12 : Fact := ⟨72, [.string Lttxt0, .int .i64 343], 965, [], .int .i64 344, 965, [], 965⟩
/- selfstab/lexer.next -/
def Ltg12_13 : Fact := ⟨73, [.string Lttxt0, .int .i64 344], 965, [], .tuple #[.agg #[.int .i64 2, .int .i64 344, .int .i64 345, .int .i64 1], .int .i64 0], 968, [], 965⟩
/- selfstab/lexer.next -/
def Ltg12_14 : Fact := ⟨73, [.string Lttxt0, .int .i64 345], 971, [], .tuple #[.agg #[.int .i64 3, .int .i64 345, .int .i64 346, .int .i64 0], .int .i64 0], 975, [], 971⟩
/- selfstab/lexer.skip -/
def Ltg12_15 : Fact := ⟨72, [.string Lttxt0, .int .i64 346], 978, [], .int .i64 347, 978, [], 978⟩
/- selfstab/lexer.next -/
def Ltg12_16 : Fact := ⟨73, [.string Lttxt0, .int .i64 347], 978, [], .tuple #[.agg #[.int .i64 3, .int .i64 347, .int .i64 348, .int .i64 0], .int .i64 0], 982, [], 978⟩
/- selfstab/lexer.skip -/
def Ltg12_17 : Fact := ⟨72, [.string Lttxt0, .int .i64 348], 985, [], .int .i64 349, 985, [], 985⟩
/- selfstab/lexer.next -/
def Ltg12_18 : Fact := ⟨73, [.string Lttxt0, .int .i64 349], 985, [], .tuple #[.agg #[.int .i64 1, .int .i64 349, .int .i64 350, .int .i64 0], .int .i64 0], 988, [], 985⟩
/- selfstab/lexer.next -/
def Ltg12_19 : Fact := ⟨73, [.string Lttxt0, .int .i64 350], 991, [], .tuple #[.agg #[.int .i64 3, .int .i64 350, .int .i64 351, .int .i64 0], .int .i64 0], 995, [], 991⟩
def Ltg12L : List Fact := [Ltg12_0, Ltg12_1, Ltg12_2, Ltg12_3, Ltg12_4, Ltg12_5, Ltg12_6, Ltg12_7, Ltg12_8, Ltg12_9, Ltg12_10, Ltg12_11, Ltg12_12, Ltg12_13, Ltg12_14, Ltg12_15, Ltg12_16, Ltg12_17, Ltg12_18, Ltg12_19]
theorem Ltg12L_ok : AllOk Ltg12L := AllOk.seq AllOk.nil (by kernel_rfl)
/- selfstab/lexer.skip -/
def Ltg13_0 : Fact := ⟨72, [.string Lttxt0, .int .i64 351], 998, [], .int .i64 352, 998, [], 998⟩
/- selfstab/lexer.next -/
def Ltg13_1 : Fact := ⟨73, [.string Lttxt0, .int .i64 352], 998, [], .tuple #[.agg #[.int .i64 3, .int .i64 352, .int .i64 353, .int .i64 0], .int .i64 0], 1002, [], 998⟩
/- selfstab/lexer.skip -/
def Ltg13_2 : Fact := ⟨72, [.string Lttxt0, .int .i64 353], 1005, [], .int .i64 354, 1005, [], 1005⟩
/- selfstab/lexer.next -/
def Ltg13_3 : Fact := ⟨73, [.string Lttxt0, .int .i64 354], 1005, [], .tuple #[.agg #[.int .i64 1, .int .i64 354, .int .i64 355, .int .i64 0], .int .i64 0], 1008, [], 1005⟩
/- selfstab/lexer.skip -/
def Ltg13_4 : Fact := ⟨72, [.string Lttxt0, .int .i64 355], 1011, [], .int .i64 356, 1011, [], 1011⟩
/- selfstab/lexer.next -/
def Ltg13_5 : Fact := ⟨73, [.string Lttxt0, .int .i64 356], 1011, [], .tuple #[.agg #[.int .i64 3, .int .i64 356, .int .i64 358, .int .i64 0], .int .i64 0], 1015, [], 1011⟩
/- selfstab/lexer.skip -/
def Ltg13_6 : Fact := ⟨72, [.string Lttxt0, .int .i64 358], 1018, [], .int .i64 359, 1018, [], 1018⟩
/- selfstab/lexer.next -/
def Ltg13_7 : Fact := ⟨73, [.string Lttxt0, .int .i64 359], 1018, [], .tuple #[.agg #[.int .i64 1, .int .i64 359, .int .i64 360, .int .i64 0], .int .i64 0], 1021, [], 1018⟩
/- selfstab/lexer.skip -/
def Ltg13_8 : Fact := ⟨72, [.string Lttxt0, .int .i64 360], 1024, [], .int .i64 361, 1024, [], 1024⟩
/- selfstab/lexer.next -/
def Ltg13_9 : Fact := ⟨73, [.string Lttxt0, .int .i64 361], 1024, [], .tuple #[.agg #[.int .i64 3, .int .i64 361, .int .i64 363, .int .i64 0], .int .i64 0], 1028, [], 1024⟩
/- selfstab/lexer.skip -/
def Ltg13_10 : Fact := ⟨72, [.string Lttxt0, .int .i64 363], 1031, [], .int .i64 364, 1031, [], 1031⟩
/- selfstab/lexer.next -/
def Ltg13_11 : Fact := ⟨73, [.string Lttxt0, .int .i64 364], 1031, [], .tuple #[.agg #[.int .i64 1, .int .i64 364, .int .i64 367, .int .i64 0], .int .i64 0], 1034, [], 1031⟩
/- selfstab/lexer.next -/
def Ltg13_12 : Fact := ⟨73, [.string Lttxt0, .int .i64 367], 1037, [], .tuple #[.agg #[.int .i64 3, .int .i64 367, .int .i64 368, .int .i64 0], .int .i64 0], 1041, [], 1037⟩
/- selfstab/lexer.next -/
def Ltg13_13 : Fact := ⟨73, [.string Lttxt0, .int .i64 368], 1044, [], .tuple #[.agg #[.int .i64 1, .int .i64 368, .int .i64 369, .int .i64 0], .int .i64 0], 1047, [], 1044⟩
/- selfstab/lexer.next -/
def Ltg13_14 : Fact := ⟨73, [.string Lttxt0, .int .i64 369], 1050, [], .tuple #[.agg #[.int .i64 3, .int .i64 369, .int .i64 370, .int .i64 0], .int .i64 0], 1054, [], 1050⟩
/- selfstab/lexer.next -/
def Ltg13_15 : Fact := ⟨73, [.string Lttxt0, .int .i64 370], 1057, [], .tuple #[.agg #[.int .i64 1, .int .i64 370, .int .i64 371, .int .i64 0], .int .i64 0], 1060, [], 1057⟩
/- selfstab/lexer.skip -/
def Ltg13_16 : Fact := ⟨72, [.string Lttxt0, .int .i64 371], 1063, [], .int .i64 372, 1063, [], 1063⟩
/- selfstab/lexer.next -/
def Ltg13_17 : Fact := ⟨73, [.string Lttxt0, .int .i64 372], 1063, [], .tuple #[.agg #[.int .i64 3, .int .i64 372, .int .i64 373, .int .i64 0], .int .i64 0], 1067, [], 1063⟩
/- selfstab/lexer.skip -/
def Ltg13_18 : Fact := ⟨72, [.string Lttxt0, .int .i64 373], 1070, [], .int .i64 374, 1070, [], 1070⟩
/- selfstab/lexer.next -/
def Ltg13_19 : Fact := ⟨73, [.string Lttxt0, .int .i64 374], 1070, [], .tuple #[.agg #[.int .i64 2, .int .i64 374, .int .i64 375, .int .i64 1], .int .i64 0], 1073, [], 1070⟩
def Ltg13L : List Fact := [Ltg13_0, Ltg13_1, Ltg13_2, Ltg13_3, Ltg13_4, Ltg13_5, Ltg13_6, Ltg13_7, Ltg13_8, Ltg13_9, Ltg13_10, Ltg13_11, Ltg13_12, Ltg13_13, Ltg13_14, Ltg13_15, Ltg13_16, Ltg13_17, Ltg13_18, Ltg13_19]
theorem Ltg13L_ok : AllOk Ltg13L := AllOk.seq AllOk.nil (by kernel_rfl)
/- selfstab/lexer.skip -/
def Ltg14_0 : Fact := ⟨72, [.string Lttxt0, .int .i64 375], 1076, [], .int .i64 376, 1076, [], 1076⟩
/- selfstab/lexer.next -/
def Ltg14_1 : Fact := ⟨73, [.string Lttxt0, .int .i64 376], 1076, [], .tuple #[.agg #[.int .i64 3, .int .i64 376, .int .i64 377, .int .i64 0], .int .i64 0], 1080, [], 1076⟩
/- selfstab/lexer.skip -/
def Ltg14_2 : Fact := ⟨72, [.string Lttxt0, .int .i64 377], 1083, [], .int .i64 378, 1083, [], 1083⟩
/- selfstab/lexer.next -/
def Ltg14_3 : Fact := ⟨73, [.string Lttxt0, .int .i64 378], 1083, [], .tuple #[.agg #[.int .i64 1, .int .i64 378, .int .i64 379, .int .i64 0], .int .i64 0], 1086, [], 1083⟩
/- selfstab/lexer.skip -/
def Ltg14_4 : Fact := ⟨72, [.string Lttxt0, .int .i64 379], 1089, [], .int .i64 380, 1089, [], 1089⟩
/- selfstab/lexer.next -/
def Ltg14_5 : Fact := ⟨73, [.string Lttxt0, .int .i64 380], 1089, [], .tuple #[.agg #[.int .i64 3, .int .i64 380, .int .i64 381, .int .i64 0], .int .i64 0], 1093, [], 1089⟩
/- selfstab/lexer.skip -/
def Ltg14_6 : Fact := ⟨72, [.string Lttxt0, .int .i64 381], 1096, [], .int .i64 382, 1096, [], 1096⟩
/- selfstab/lexer.next -/
def Ltg14_7 : Fact := ⟨73, [.string Lttxt0, .int .i64 382], 1096, [], .tuple #[.agg #[.int .i64 1, .int .i64 382, .int .i64 383, .int .i64 0], .int .i64 0], 1099, [], 1096⟩
/- selfstab/lexer.next -/
def Ltg14_8 : Fact := ⟨73, [.string Lttxt0, .int .i64 383], 1102, [], .tuple #[.agg #[.int .i64 3, .int .i64 383, .int .i64 384, .int .i64 0], .int .i64 0], 1106, [], 1102⟩
/- selfstab/lexer.next -/
def Ltg14_9 : Fact := ⟨73, [.string Lttxt0, .int .i64 384], 1109, [], .tuple #[.agg #[.int .i64 1, .int .i64 384, .int .i64 388, .int .i64 0], .int .i64 0], 1112, [], 1109⟩
/- selfstab/lexer.skip -/
def Ltg14_10 : Fact := ⟨72, [.string Lttxt0, .int .i64 388], 1115, [], .int .i64 389, 1115, [], 1115⟩
/- selfstab/lexer.next -/
def Ltg14_11 : Fact := ⟨73, [.string Lttxt0, .int .i64 389], 1115, [], .tuple #[.agg #[.int .i64 3, .int .i64 389, .int .i64 390, .int .i64 0], .int .i64 0], 1119, [], 1115⟩
/- selfstab/lexer.skip -/
def Ltg14_12 : Fact := ⟨72, [.string Lttxt0, .int .i64 390], 1122, [], .int .i64 391, 1122, [], 1122⟩
/- selfstab/lexer.next -/
def Ltg14_13 : Fact := ⟨73, [.string Lttxt0, .int .i64 391], 1122, [], .tuple #[.agg #[.int .i64 1, .int .i64 391, .int .i64 392, .int .i64 0], .int .i64 0], 1125, [], 1122⟩
/- selfstab/lexer.skip -/
def Ltg14_14 : Fact := ⟨72, [.string Lttxt0, .int .i64 392], 1128, [], .int .i64 393, 1128, [], 1128⟩
/- selfstab/lexer.next -/
def Ltg14_15 : Fact := ⟨73, [.string Lttxt0, .int .i64 393], 1128, [], .tuple #[.agg #[.int .i64 3, .int .i64 393, .int .i64 394, .int .i64 0], .int .i64 0], 1132, [], 1128⟩
/- selfstab/lexer.skip -/
def Ltg14_16 : Fact := ⟨72, [.string Lttxt0, .int .i64 394], 1135, [], .int .i64 395, 1135, [], 1135⟩
/- selfstab/lexer.next -/
def Ltg14_17 : Fact := ⟨73, [.string Lttxt0, .int .i64 395], 1135, [], .tuple #[.agg #[.int .i64 1, .int .i64 395, .int .i64 396, .int .i64 0], .int .i64 0], 1138, [], 1135⟩
/- selfstab/lexer.next -/
def Ltg14_18 : Fact := ⟨73, [.string Lttxt0, .int .i64 396], 1141, [], .tuple #[.agg #[.int .i64 3, .int .i64 396, .int .i64 397, .int .i64 0], .int .i64 0], 1145, [], 1141⟩
/- selfstab/lexer.next -/
def Ltg14_19 : Fact := ⟨73, [.string Lttxt0, .int .i64 397], 1148, [], .tuple #[.agg #[.int .i64 1, .int .i64 397, .int .i64 398, .int .i64 0], .int .i64 0], 1151, [], 1148⟩
def Ltg14L : List Fact := [Ltg14_0, Ltg14_1, Ltg14_2, Ltg14_3, Ltg14_4, Ltg14_5, Ltg14_6, Ltg14_7, Ltg14_8, Ltg14_9, Ltg14_10, Ltg14_11, Ltg14_12, Ltg14_13, Ltg14_14, Ltg14_15, Ltg14_16, Ltg14_17, Ltg14_18, Ltg14_19]
theorem Ltg14L_ok : AllOk Ltg14L := AllOk.seq AllOk.nil (by kernel_rfl)
/- selfstab/lexer.skip -/
def Ltg15_0 : Fact := ⟨72, [.string Lttxt0, .int .i64 398], 1154, [], .int .i64 399, 1154, [], 1154⟩
/- selfstab/lexer.next -/
def Ltg15_1 : Fact := ⟨73, [.string Lttxt0, .int .i64 399], 1154, [], .tuple #[.agg #[.int .i64 3, .int .i64 399, .int .i64 400, .int .i64 0], .int .i64 0], 1158, [], 1154⟩
/- selfstab/lexer.skip -/
def Ltg15_2 : Fact := ⟨72, [.string Lttxt0, .int .i64 400], 1161, [], .int .i64 401, 1161, [], 1161⟩
/- selfstab/lexer.next -/
def Ltg15_3 : Fact := ⟨73, [.string Lttxt0, .int .i64 401], 1161, [], .tuple #[.agg #[.int .i64 3, .int .i64 401, .int .i64 402, .int .i64 0], .int .i64 0], 1165, [], 1161⟩
/- selfstab/lexer.next -/
def Ltg15_4 : Fact := ⟨73, [.string Lttxt0, .int .i64 402], 1168, [], .tuple #[.agg #[.int .i64 1, .int .i64 402, .int .i64 405, .int .i64 0], .int .i64 0], 1171, [], 1168⟩
/- selfstab/lexer.skip -/
def Ltg15_5 : Fact := ⟨72, [.string Lttxt0, .int .i64 405], 1174, [], .int .i64 406, 1174, [], 1174⟩
/- selfstab/lexer.next -/
def Ltg15_6 : Fact := ⟨73, [.string Lttxt0, .int .i64 406], 1174, [], .tuple #[.agg #[.int .i64 3, .int .i64 406, .int .i64 407, .int .i64 0], .int .i64 0], 1178, [], 1174⟩
/- selfstab/lexer.skip -/
def Ltg15_7 : Fact := ⟨72, [.string Lttxt0, .int .i64 407], 1181, [], .int .i64 408, 1181, [], 1181⟩
/- selfstab/lexer.next -/
def Ltg15_8 : Fact := ⟨73, [.string Lttxt0, .int .i64 408], 1181, [], .tuple #[.agg #[.int .i64 2, .int .i64 408, .int .i64 409, .int .i64 1], .int .i64 0], 1184, [], 1181⟩
/- selfstab/lexer.next -/
def Ltg15_9 : Fact := ⟨73, [.string Lttxt0, .int .i64 409], 1187, [], .tuple #[.agg #[.int .i64 3, .int .i64 409, .int .i64 410, .int .i64 0], .int .i64 0], 1191, [], 1187⟩
/- selfstab/lexer.skip -/
def Ltg15_10 : Fact := ⟨72, [.string Lttxt0, .int .i64 410], 1194, [], .int .i64 411, 1194, [], 1194⟩
/- selfstab/lexer.next -/
def Ltg15_11 : Fact := ⟨73, [.string Lttxt0, .int .i64 411], 1194, [], .tuple #[.agg #[.int .i64 3, .int .i64 411, .int .i64 412, .int .i64 0], .int .i64 0], 1198, [], 1194⟩
/- selfstab/lexer.skip -/
def Ltg15_12 : Fact := ⟨72, [.string Lttxt0, .int .i64 412], 1201, [], .int .i64 413, 1201, [], 1201⟩
/- selfstab/lexer.next -/
def Ltg15_13 : Fact := ⟨73, [.string Lttxt0, .int .i64 413], 1201, [], .tuple #[.agg #[.int .i64 1, .int .i64 413, .int .i64 414, .int .i64 0], .int .i64 0], 1204, [], 1201⟩
/- selfstab/lexer.next -/
def Ltg15_14 : Fact := ⟨73, [.string Lttxt0, .int .i64 414], 1207, [], .tuple #[.agg #[.int .i64 3, .int .i64 414, .int .i64 415, .int .i64 0], .int .i64 0], 1211, [], 1207⟩
/- selfstab/lexer.skip -/
def Ltg15_15 : Fact := ⟨72, [.string Lttxt0, .int .i64 415], 1214, [], .int .i64 416, 1214, [], 1214⟩
/- selfstab/lexer.next -/
def Ltg15_16 : Fact := ⟨73, [.string Lttxt0, .int .i64 416], 1214, [], .tuple #[.agg #[.int .i64 3, .int .i64 416, .int .i64 417, .int .i64 0], .int .i64 0], 1218, [], 1214⟩
/- selfstab/lexer.skip -/
def Ltg15_17 : Fact := ⟨72, [.string Lttxt0, .int .i64 417], 1221, [], .int .i64 418, 1221, [], 1221⟩
/- selfstab/lexer.next -/
def Ltg15_18 : Fact := ⟨73, [.string Lttxt0, .int .i64 418], 1221, [], .tuple #[.agg #[.int .i64 1, .int .i64 418, .int .i64 419, .int .i64 0], .int .i64 0], 1224, [], 1221⟩
/- selfstab/lexer.skip -/
def Ltg15_19 : Fact := ⟨72, [.string Lttxt0, .int .i64 419], 1227, [], .int .i64 420, 1227, [], 1227⟩
def Ltg15L : List Fact := [Ltg15_0, Ltg15_1, Ltg15_2, Ltg15_3, Ltg15_4, Ltg15_5, Ltg15_6, Ltg15_7, Ltg15_8, Ltg15_9, Ltg15_10, Ltg15_11, Ltg15_12, Ltg15_13, Ltg15_14, Ltg15_15, Ltg15_16, Ltg15_17, Ltg15_18, Ltg15_19]
theorem Ltg15L_ok : AllOk Ltg15L := AllOk.seq AllOk.nil (by kernel_rfl)
/- selfstab/lexer.next -/
def Ltg16_0 : Fact := ⟨73, [.string Lttxt0, .int .i64 420], 1227, [], .tuple #[.agg #[.int .i64 3, .int .i64 420, .int .i64 421, .int .i64 0], .int .i64 0], 1231, [], 1227⟩
/- selfstab/lexer.skip -/
def Ltg16_1 : Fact := ⟨72, [.string Lttxt0, .int .i64 421], 1234, [], .int .i64 422, 1234, [], 1234⟩
/- selfstab/lexer.next -/
def Ltg16_2 : Fact := ⟨73, [.string Lttxt0, .int .i64 422], 1234, [], .tuple #[.agg #[.int .i64 2, .int .i64 422, .int .i64 423, .int .i64 1], .int .i64 0], 1237, [], 1234⟩
/- selfstab/lexer.skip -/
def Ltg16_3 : Fact := ⟨72, [.string Lttxt0, .int .i64 423], 1240, [], .int .i64 424, 1240, [], 1240⟩
/- selfstab/lexer.next -/
def Ltg16_4 : Fact := ⟨73, [.string Lttxt0, .int .i64 424], 1240, [], .tuple #[.agg #[.int .i64 3, .int .i64 424, .int .i64 426, .int .i64 0], .int .i64 0], 1244, [], 1240⟩
/- selfstab/lexer.skip -/
def Ltg16_5 : Fact := ⟨72, [.string Lttxt0, .int .i64 426], 1247, [], .int .i64 427, 1247, [], 1247⟩
/- selfstab/lexer.next -/
def Ltg16_6 : Fact := ⟨73, [.string Lttxt0, .int .i64 427], 1247, [], .tuple #[.agg #[.int .i64 1, .int .i64 427, .int .i64 428, .int .i64 0], .int .i64 0], 1250, [], 1247⟩
/- selfstab/lexer.skip -/
def Ltg16_7 : Fact := ⟨72, [.string Lttxt0, .int .i64 428], 1253, [], .int .i64 429, 1253, [], 1253⟩
/- selfstab/lexer.next -/
def Ltg16_8 : Fact := ⟨73, [.string Lttxt0, .int .i64 429], 1253, [], .tuple #[.agg #[.int .i64 3, .int .i64 429, .int .i64 431, .int .i64 0], .int .i64 0], 1257, [], 1253⟩
/- selfstab/lexer.skip -/
def Ltg16_9 : Fact := ⟨72, [.string Lttxt0, .int .i64 431], 1260, [], .int .i64 432, 1260, [], 1260⟩
/- selfstab/lexer.next -/
def Ltg16_10 : Fact := ⟨73, [.string Lttxt0, .int .i64 432], 1260, [], .tuple #[.agg #[.int .i64 1, .int .i64 432, .int .i64 437, .int .i64 0], .int .i64 0], 1263, [], 1260⟩
/- selfstab/lexer.next -/
def Ltg16_11 : Fact := ⟨73, [.string Lttxt0, .int .i64 437], 1266, [], .tuple #[.agg #[.int .i64 3, .int .i64 437, .int .i64 438, .int .i64 0], .int .i64 0], 1270, [], 1266⟩
/- selfstab/lexer.next -/
def Ltg16_12 : Fact := ⟨73, [.string Lttxt0, .int .i64 438], 1273, [], .tuple #[.agg #[.int .i64 1, .int .i64 438, .int .i64 439, .int .i64 0], .int .i64 0], 1276, [], 1273⟩
/- selfstab/lexer.next -/
def Ltg16_13 : Fact := ⟨73, [.string Lttxt0, .int .i64 439], 1279, [], .tuple #[.agg #[.int .i64 3, .int .i64 439, .int .i64 440, .int .i64 0], .int .i64 0], 1283, [], 1279⟩
/- selfstab/lexer.next -/
def Ltg16_14 : Fact := ⟨73, [.string Lttxt0, .int .i64 440], 1286, [], .tuple #[.agg #[.int .i64 1, .int .i64 440, .int .i64 444, .int .i64 0], .int .i64 0], 1289, [], 1286⟩
/- selfstab/lexer.skip -/
def Ltg16_15 : Fact := ⟨72, [.string Lttxt0, .int .i64 444], 1292, [], .int .i64 445, 1292, [], 1292⟩
/- selfstab/lexer.next -/
def Ltg16_16 : Fact := ⟨73, [.string Lttxt0, .int .i64 445], 1292, [], .tuple #[.agg #[.int .i64 3, .int .i64 445, .int .i64 446, .int .i64 0], .int .i64 0], 1296, [], 1292⟩
/- selfstab/lexer.skip -/
def Ltg16_17 : Fact := ⟨72, [.string Lttxt0, .int .i64 446], 1299, [], .int .i64 447, 1299, [], 1299⟩
/- selfstab/lexer.next -/
def Ltg16_18 : Fact := ⟨73, [.string Lttxt0, .int .i64 447], 1299, [], .tuple #[.agg #[.int .i64 1, .int .i64 447, .int .i64 448, .int .i64 0], .int .i64 0], 1302, [], 1299⟩
/- selfstab/lexer.skip -/
def Ltg16_19 : Fact := ⟨72, [.string Lttxt0, .int .i64 448], 1305, [], .int .i64 449, 1305, [], 1305⟩
def Ltg16L : List Fact := [Ltg16_0, Ltg16_1, Ltg16_2, Ltg16_3, Ltg16_4, Ltg16_5, Ltg16_6, Ltg16_7, Ltg16_8, Ltg16_9, Ltg16_10, Ltg16_11, Ltg16_12, Ltg16_13, Ltg16_14, Ltg16_15, Ltg16_16, Ltg16_17, Ltg16_18, Ltg16_19]
theorem Ltg16L_ok : AllOk Ltg16L := AllOk.seq AllOk.nil (by kernel_rfl)
/- selfstab/lexer.next -/
def Ltg17_0 : Fact := ⟨73, [.string Lttxt0, .int .i64 449], 1305, [], .tuple #[.agg #[.int .i64 3, .int .i64 449, .int .i64 450, .int .i64 0], .int .i64 0], 1309, [], 1305⟩
/- selfstab/lexer.skip -/
def Ltg17_1 : Fact := ⟨72, [.string Lttxt0, .int .i64 450], 1312, [], .int .i64 451, 1312, [], 1312⟩
/- selfstab/lexer.next -/
def Ltg17_2 : Fact := ⟨73, [.string Lttxt0, .int .i64 451], 1312, [], .tuple #[.agg #[.int .i64 1, .int .i64 451, .int .i64 452, .int .i64 0], .int .i64 0], 1315, [], 1312⟩
/- selfstab/lexer.next -/
def Ltg17_3 : Fact := ⟨73, [.string Lttxt0, .int .i64 452], 1318, [], .tuple #[.agg #[.int .i64 3, .int .i64 452, .int .i64 453, .int .i64 0], .int .i64 0], 1322, [], 1318⟩
/- selfstab/lexer.next -/
def Ltg17_4 : Fact := ⟨73, [.string Lttxt0, .int .i64 453], 1325, [], .tuple #[.agg #[.int .i64 1, .int .i64 453, .int .i64 454, .int .i64 0], .int .i64 0], 1328, [], 1325⟩
/- selfstab/lexer.skip -/
def Ltg17_5 : Fact := ⟨72, [.string Lttxt0, .int .i64 454], 1331, [], .int .i64 455, 1331, [], 1331⟩
/- selfstab/lexer.next -/
def Ltg17_6 : Fact := ⟨73, [.string Lttxt0, .int .i64 455], 1331, [], .tuple #[.agg #[.int .i64 3, .int .i64 455, .int .i64 457, .int .i64 0], .int .i64 0], 1335, [], 1331⟩
/- selfstab/lexer.skip -/
def Ltg17_7 : Fact := ⟨72, [.string Lttxt0, .int .i64 457], 1338, [], .int .i64 458, 1338, [], 1338⟩
/- selfstab/lexer.next -/
def Ltg17_8 : Fact := ⟨73, [.string Lttxt0, .int .i64 458], 1338, [], .tuple #[.agg #[.int .i64 1, .int .i64 458, .int .i64 461, .int .i64 0], .int .i64 0], 1341, [], 1338⟩
/- selfstab/lexer.next -/
def Ltg17_9 : Fact := ⟨73, [.string Lttxt0, .int .i64 461], 1344, [], .tuple #[.agg #[.int .i64 3, .int .i64 461, .int .i64 462, .int .i64 0], .int .i64 0], 1348, [], 1344⟩
/- selfstab/lexer.next -/
def Ltg17_10 : Fact := ⟨73, [.string Lttxt0, .int .i64 462], 1351, [], .tuple #[.agg #[.int .i64 1, .int .i64 462, .int .i64 463, .int .i64 0], .int .i64 0], 1354, [], 1351⟩
/- selfstab/lexer.next -/
def Ltg17_11 : Fact := ⟨73, [.string Lttxt0, .int .i64 463], 1357, [], .tuple #[.agg #[.int .i64 3, .int .i64 463, .int .i64 464, .int .i64 0], .int .i64 0], 1361, [], 1357⟩
/- selfstab/lexer.next -/
def Ltg17_12 : Fact := ⟨73, [.string Lttxt0, .int .i64 464], 1364, [], .tuple #[.agg #[.int .i64 1, .int .i64 464, .int .i64 465, .int .i64 0], .int .i64 0], 1367, [], 1364⟩
/- selfstab/lexer.skip -/
def Ltg17_13 : Fact := ⟨72, [.string Lttxt0, .int .i64 465], 1370, [], .int .i64 466, 1370, [], 1370⟩
/- selfstab/lexer.next -/
def Ltg17_14 : Fact := ⟨73, [.string Lttxt0, .int .i64 466], 1370, [], .tuple #[.agg #[.int .i64 3, .int .i64 466, .int .i64 467, .int .i64 0], .int .i64 0], 1374, [], 1370⟩
/- selfstab/lexer.skip -/
def Ltg17_15 : Fact := ⟨72, [.string Lttxt0, .int .i64 467], 1377, [], .int .i64 468, 1377, [], 1377⟩
/- selfstab/lexer.next -/
def Ltg17_16 : Fact := ⟨73, [.string Lttxt0, .int .i64 468], 1377, [], .tuple #[.agg #[.int .i64 2, .int .i64 468, .int .i64 469, .int .i64 1], .int .i64 0], 1380, [], 1377⟩
/- selfstab/lexer.skip -/
def Ltg17_17 : Fact := ⟨72, [.string Lttxt0, .int .i64 469], 1383, [], .int .i64 470, 1383, [], 1383⟩
/- selfstab/lexer.next -/
def Ltg17_18 : Fact := ⟨73, [.string Lttxt0, .int .i64 470], 1383, [], .tuple #[.agg #[.int .i64 3, .int .i64 470, .int .i64 471, .int .i64 0], .int .i64 0], 1387, [], 1383⟩
/- selfstab/lexer.skip -/
def Ltg17_19 : Fact := ⟨72, [.string Lttxt0, .int .i64 471], 1390, [], .int .i64 472, 1390, [], 1390⟩
def Ltg17L : List Fact := [Ltg17_0, Ltg17_1, Ltg17_2, Ltg17_3, Ltg17_4, Ltg17_5, Ltg17_6, Ltg17_7, Ltg17_8, Ltg17_9, Ltg17_10, Ltg17_11, Ltg17_12, Ltg17_13, Ltg17_14, Ltg17_15, Ltg17_16, Ltg17_17, Ltg17_18, Ltg17_19]
theorem Ltg17L_ok : AllOk Ltg17L := AllOk.seq AllOk.nil (by kernel_rfl)
/- selfstab/lexer.next -/
def Ltg18_0 : Fact := ⟨73, [.string Lttxt0, .int .i64 472], 1390, [], .tuple #[.agg #[.int .i64 1, .int .i64 472, .int .i64 473, .int .i64 0], .int .i64 0], 1393, [], 1390⟩
/- selfstab/lexer.skip -/
def Ltg18_1 : Fact := ⟨72, [.string Lttxt0, .int .i64 473], 1396, [], .int .i64 474, 1396, [], 1396⟩
/- selfstab/lexer.next -/
def Ltg18_2 : Fact := ⟨73, [.string Lttxt0, .int .i64 474], 1396, [], .tuple #[.agg #[.int .i64 3, .int .i64 474, .int .i64 475, .int .i64 0], .int .i64 0], 1400, [], 1396⟩
/- selfstab/lexer.skip -/
def Ltg18_3 : Fact := ⟨72, [.string Lttxt0, .int .i64 475], 1403, [], .int .i64 476, 1403, [], 1403⟩
/- selfstab/lexer.next -/
def Ltg18_4 : Fact := ⟨73, [.string Lttxt0, .int .i64 476], 1403, [], .tuple #[.agg #[.int .i64 1, .int .i64 476, .int .i64 477, .int .i64 0], .int .i64 0], 1406, [], 1403⟩
/- selfstab/lexer.next -/
def Ltg18_5 : Fact := ⟨73, [.string Lttxt0, .int .i64 477], 1409, [], .tuple #[.agg #[.int .i64 3, .int .i64 477, .int .i64 478, .int .i64 0], .int .i64 0], 1413, [], 1409⟩
/- selfstab/lexer.next -/
def Ltg18_6 : Fact := ⟨73, [.string Lttxt0, .int .i64 478], 1416, [], .tuple #[.agg #[.int .i64 1, .int .i64 478, .int .i64 482, .int .i64 0], .int .i64 0], 1419, [], 1416⟩
/- selfstab/lexer.skip -/
def Ltg18_7 : Fact := ⟨72, [.string Lttxt0, .int .i64 482], 1422, [], .int .i64 483, 1422, [], 1422⟩
/- selfstab/lexer.next -/
def Ltg18_8 : Fact := ⟨73, [.string Lttxt0, .int .i64 483], 1422, [], .tuple #[.agg #[.int .i64 3, .int .i64 483, .int .i64 484, .int .i64 0], .int .i64 0], 1426, [], 1422⟩
/- selfstab/lexer.skip -/
def Ltg18_9 : Fact := ⟨72, [.string Lttxt0, .int .i64 484], 1429, [], .int .i64 485, 1429, [], 1429⟩
/- selfstab/lexer.next -/
def Ltg18_10 : Fact := ⟨73, [.string Lttxt0, .int .i64 485], 1429, [], .tuple #[.agg #[.int .i64 1, .int .i64 485, .int .i64 486, .int .i64 0], .int .i64 0], 1432, [], 1429⟩
/- selfstab/lexer.skip -/
def Ltg18_11 : Fact := ⟨72, [.string Lttxt0, .int .i64 486], 1435, [], .int .i64 487, 1435, [], 1435⟩
/- selfstab/lexer.next -/
def Ltg18_12 : Fact := ⟨73, [.string Lttxt0, .int .i64 487], 1435, [], .tuple #[.agg #[.int .i64 3, .int .i64 487, .int .i64 488, .int .i64 0], .int .i64 0], 1439, [], 1435⟩
/- selfstab/lexer.skip -/
def Ltg18_13 : Fact := ⟨72, [.string Lttxt0, .int .i64 488], 1442, [], .int .i64 489, 1442, [], 1442⟩
/- selfstab/lexer.next -/
def Ltg18_14 : Fact := ⟨73, [.string Lttxt0, .int .i64 489], 1442, [], .tuple #[.agg #[.int .i64 1, .int .i64 489, .int .i64 490, .int .i64 0], .int .i64 0], 1445, [], 1442⟩
/- selfstab/lexer.next -/
def Ltg18_15 : Fact := ⟨73, [.string Lttxt0, .int .i64 490], 1448, [], .tuple #[.agg #[.int .i64 3, .int .i64 490, .int .i64 491, .int .i64 0], .int .i64 0], 1452, [], 1448⟩
/- selfstab/lexer.next -/
def Ltg18_16 : Fact := ⟨73, [.string Lttxt0, .int .i64 491], 1455, [], .tuple #[.agg #[.int .i64 1, .int .i64 491, .int .i64 492, .int .i64 0], .int .i64 0], 1458, [], 1455⟩
/- selfstab/lexer.skip -/
def Ltg18_17 : Fact := ⟨72, [.string Lttxt0, .int .i64 492], 1461, [], .int .i64 493, 1461, [], 1461⟩
/- selfstab/lexer.next -/
def Ltg18_18 : Fact := ⟨73, [.string Lttxt0, .int .i64 493], 1461, [], .tuple #[.agg #[.int .i64 3, .int .i64 493, .int .i64 494, .int .i64 0], .int .i64 0], 1465, [], 1461⟩
/- selfstab/lexer.skip -/
def Ltg18_19 : Fact := ⟨72, [.string Lttxt0, .int .i64 494], 1468, [], .int .i64 495, 1468, [], 1468⟩
def Ltg18L : List Fact := [Ltg18_0, Ltg18_1, Ltg18_2, Ltg18_3, Ltg18_4, Ltg18_5, Ltg18_6, Ltg18_7, Ltg18_8, Ltg18_9, Ltg18_10, Ltg18_11, Ltg18_12, Ltg18_13, Ltg18_14, Ltg18_15, Ltg18_16, Ltg18_17, Ltg18_18, Ltg18_19]
theorem Ltg18L_ok : AllOk Ltg18L := AllOk.seq AllOk.nil (by kernel_rfl)
/- selfstab/lexer.next -/
def Ltg19_0 : Fact := ⟨73, [.string Lttxt0, .int .i64 495], 1468, [], .tuple #[.agg #[.int .i64 3, .int .i64 495, .int .i64 496, .int .i64 0], .int .i64 0], 1472, [], 1468⟩
/- selfstab/lexer.next -/
def Ltg19_1 : Fact := ⟨73, [.string Lttxt0, .int .i64 496], 1475, [], .tuple #[.agg #[.int .i64 1, .int .i64 496, .int .i64 499, .int .i64 0], .int .i64 0], 1478, [], 1475⟩
/- selfstab/lexer.skip -/
def Ltg19_2 : Fact := ⟨72, [.string Lttxt0, .int .i64 499], 1481, [], .int .i64 500, 1481, [], 1481⟩
/- selfstab/lexer.next -/
def Ltg19_3 : Fact := ⟨73, [.string Lttxt0, .int .i64 500], 1481, [], .tuple #[.agg #[.int .i64 3, .int .i64 500, .int .i64 501, .int .i64 0], .int .i64 0], 1485, [], 1481⟩
/- selfstab/lexer.skip -/
def Ltg19_4 : Fact := ⟨72, [.string Lttxt0, .int .i64 501], 1488, [], .int .i64 502, 1488, [], 1488⟩
/- selfstab/lexer.next -/
def Ltg19_5 : Fact := ⟨73, [.string Lttxt0, .int .i64 502], 1488, [], .tuple #[.agg #[.int .i64 2, .int .i64 502, .int .i64 503, .int .i64 1], .int .i64 0], 1491, [], 1488⟩
/- selfstab/lexer.next -/
def Ltg19_6 : Fact := ⟨73, [.string Lttxt0, .int .i64 503], 1494, [], .tuple #[.agg #[.int .i64 3, .int .i64 503, .int .i64 504, .int .i64 0], .int .i64 0], 1498, [], 1494⟩
/- selfstab/lexer.skip -/
def Ltg19_7 : Fact := ⟨72, [.string Lttxt0, .int .i64 504], 1501, [], .int .i64 505, 1501, [], 1501⟩
/- selfstab/lexer.next -/
def Ltg19_8 : Fact := ⟨73, [.string Lttxt0, .int .i64 505], 1501, [], .tuple #[.agg #[.int .i64 3, .int .i64 505, .int .i64 506, .int .i64 0], .int .i64 0], 1505, [], 1501⟩
/- selfstab/lexer.skip -/
def Ltg19_9 : Fact := ⟨72, [.string Lttxt0, .int .i64 506], 1508, [], .int .i64 507, 1508, [], 1508⟩
/- selfstab/lexer.next -/
def Ltg19_10 : Fact := ⟨73, [.string Lttxt0, .int .i64 507], 1508, [], .tuple #[.agg #[.int .i64 1, .int .i64 507, .int .i64 508, .int .i64 0], .int .i64 0], 1511, [], 1508⟩
/- selfstab/lexer.next -/
def Ltg19_11 : Fact := ⟨73, [.string Lttxt0, .int .i64 508], 1514, [], .tuple #[.agg #[.int .i64 3, .int .i64 508, .int .i64 509, .int .i64 0], .int .i64 0], 1518, [], 1514⟩
/- selfstab/lexer.next -/
def Ltg19_12 : Fact := ⟨73, [.string Lttxt0, .int .i64 509], 1521, [], .tuple #[.agg #[.int .i64 3, .int .i64 509, .int .i64 510, .int .i64 0], .int .i64 0], 1525, [], 1521⟩
/- selfstab/lexer.next -/
def Ltg19_13 : Fact := ⟨73, [.string Lttxt0, .int .i64 510], 1528, [], .tuple #[.agg #[.int .i64 3, .int .i64 510, .int .i64 511, .int .i64 0], .int .i64 0], 1532, [], 1528⟩
/- selfstab/lexer.skip -/
def Ltg19_14 : Fact := ⟨72, [.string Lttxt0, .int .i64 511], 1535, [], .int .i64 514, 1535, [], 1535⟩
/- selfstab/lexer.next -/
def Ltg19_15 : Fact := ⟨73, [.string Lttxt0, .int .i64 514], 1535, [], .tuple #[.agg #[.int .i64 3, .int .i64 514, .int .i64 516, .int .i64 0], .int .i64 0], 1539, [], 1535⟩
/- selfstab/lexer.skip -/
def Ltg19_16 : Fact := ⟨72, [.string Lttxt0, .int .i64 516], 1542, [], .int .i64 517, 1542, [], 1542⟩
/- selfstab/lexer.next -/
def Ltg19_17 : Fact := ⟨73, [.string Lttxt0, .int .i64 517], 1542, [], .tuple #[.agg #[.int .i64 1, .int .i64 517, .int .i64 521, .int .i64 0], .int .i64 0], 1545, [], 1542⟩
/- selfstab/lexer.skip -/
def Ltg19_18 : Fact := ⟨72, [.string Lttxt0, .int .i64 521], 1548, [], .int .i64 522, 1548, [], 1548⟩
/- selfstab/lexer.next -/
def Ltg19_19 : Fact := ⟨73, [.string Lttxt0, .int .i64 522], 1548, [], .tuple #[.agg #[.int .i64 3, .int .i64 522, .int .i64 524, .int .i64 0], .int .i64 0], 1552, [], 1548⟩
def Ltg19L : List Fact := [Ltg19_0, Ltg19_1, Ltg19_2, Ltg19_3, Ltg19_4, Ltg19_5, Ltg19_6, Ltg19_7, Ltg19_8, Ltg19_9, Ltg19_10, Ltg19_11, Ltg19_12, Ltg19_13, Ltg19_14, Ltg19_15, Ltg19_16, Ltg19_17, Ltg19_18, Ltg19_19]
theorem Ltg19L_ok : AllOk Ltg19L := AllOk.seq AllOk.nil (by kernel_rfl)
end Ev
end Go.Proofs.YtbhjopjonoldmaaGreat
