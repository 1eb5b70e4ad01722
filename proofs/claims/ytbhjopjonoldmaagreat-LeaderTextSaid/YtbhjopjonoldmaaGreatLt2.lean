/- Facts. Printed by wip/facts3.py. -/
import Derived.Test.YtbhjopjonoldmaaGreatLtC
namespace Go.Proofs.YtbhjopjonoldmaaGreat
namespace Ev
open Go
set_option maxRecDepth 1000000
/- selfstab/lexer.skip -/
def Ltg20_0 : Fact := ⟨72, [.string Lttxt0, .int .i64 524], 1555, [], .int .i64 525, 1555, [], 1555⟩
/- selfstab/lexer.next -/
def Ltg20_1 : Fact := ⟨73, [.string Lttxt0, .int .i64 525], 1555, [], .tuple #[.agg #[.int .i64 1, .int .i64 525, .int .i64 528, .int .i64 0], .int .i64 0], 1558, [], 1555⟩
/- selfstab/lexer.next -/
def Ltg20_2 : Fact := ⟨73, [.string Lttxt0, .int .i64 528], 1561, [], .tuple #[.agg #[.int .i64 3, .int .i64 528, .int .i64 529, .int .i64 0], .int .i64 0], 1565, [], 1561⟩
/- selfstab/lexer.next -/
def Ltg20_3 : Fact := ⟨73, [.string Lttxt0, .int .i64 529], 1568, [], .tuple #[.agg #[.int .i64 1, .int .i64 529, .int .i64 530, .int .i64 0], .int .i64 0], 1571, [], 1568⟩
/- selfstab/lexer.next -/
def Ltg20_4 : Fact := ⟨73, [.string Lttxt0, .int .i64 530], 1574, [], .tuple #[.agg #[.int .i64 3, .int .i64 530, .int .i64 531, .int .i64 0], .int .i64 0], 1578, [], 1574⟩
/- selfstab/lexer.next -/
def Ltg20_5 : Fact := ⟨73, [.string Lttxt0, .int .i64 531], 1581, [], .tuple #[.agg #[.int .i64 1, .int .i64 531, .int .i64 532, .int .i64 0], .int .i64 0], 1584, [], 1581⟩
/- selfstab/lexer.skip -/
def Ltg20_6 : Fact := ⟨72, [.string Lttxt0, .int .i64 532], 1587, [], .int .i64 533, 1587, [], 1587⟩
/- selfstab/lexer.next -/
def Ltg20_7 : Fact := ⟨73, [.string Lttxt0, .int .i64 533], 1587, [], .tuple #[.agg #[.int .i64 3, .int .i64 533, .int .i64 534, .int .i64 0], .int .i64 0], 1591, [], 1587⟩
/- selfstab/lexer.skip -/
def Ltg20_8 : Fact := ⟨72, [.string Lttxt0, .int .i64 534], 1594, [], .int .i64 535, 1594, [], 1594⟩
/- selfstab/lexer.next -/
def Ltg20_9 : Fact := ⟨73, [.string Lttxt0, .int .i64 535], 1594, [], .tuple #[.agg #[.int .i64 2, .int .i64 535, .int .i64 536, .int .i64 1], .int .i64 0], 1597, [], 1594⟩
/- selfstab/lexer.skip -/
def Ltg20_10 : Fact := ⟨72, [.string Lttxt0, .int .i64 536], 1600, [], .int .i64 537, 1600, [], 1600⟩
/- selfstab/lexer.next -/
def Ltg20_11 : Fact := ⟨73, [.string Lttxt0, .int .i64 537], 1600, [], .tuple #[.agg #[.int .i64 3, .int .i64 537, .int .i64 538, .int .i64 0], .int .i64 0], 1604, [], 1600⟩
/- selfstab/lexer.skip -/
def Ltg20_12 : Fact := ⟨72, [.string Lttxt0, .int .i64 538], 1607, [], .int .i64 539, 1607, [], 1607⟩
/- selfstab/lexer.next -/
def Ltg20_13 : Fact := ⟨73, [.string Lttxt0, .int .i64 539], 1607, [], .tuple #[.agg #[.int .i64 1, .int .i64 539, .int .i64 540, .int .i64 0], .int .i64 0], 1610, [], 1607⟩
/- selfstab/lexer.skip -/
def Ltg20_14 : Fact := ⟨72, [.string Lttxt0, .int .i64 540], 1613, [], .int .i64 541, 1613, [], 1613⟩
/- selfstab/lexer.next -/
def Ltg20_15 : Fact := ⟨73, [.string Lttxt0, .int .i64 541], 1613, [], .tuple #[.agg #[.int .i64 3, .int .i64 541, .int .i64 542, .int .i64 0], .int .i64 0], 1617, [], 1613⟩
/- selfstab/lexer.skip -/
def Ltg20_16 : Fact := ⟨72, [.string Lttxt0, .int .i64 542], 1620, [], .int .i64 543, 1620, [], 1620⟩
/- selfstab/lexer.next -/
def Ltg20_17 : Fact := ⟨73, [.string Lttxt0, .int .i64 543], 1620, [], .tuple #[.agg #[.int .i64 1, .int .i64 543, .int .i64 544, .int .i64 0], .int .i64 0], 1623, [], 1620⟩
/- selfstab/lexer.next -/
def Ltg20_18 : Fact := ⟨73, [.string Lttxt0, .int .i64 544], 1626, [], .tuple #[.agg #[.int .i64 3, .int .i64 544, .int .i64 545, .int .i64 0], .int .i64 0], 1630, [], 1626⟩
/- selfstab/lexer.next -/
def Ltg20_19 : Fact := ⟨73, [.string Lttxt0, .int .i64 545], 1633, [], .tuple #[.agg #[.int .i64 1, .int .i64 545, .int .i64 549, .int .i64 0], .int .i64 0], 1636, [], 1633⟩
def Ltg20L : List Fact := [Ltg20_0, Ltg20_1, Ltg20_2, Ltg20_3, Ltg20_4, Ltg20_5, Ltg20_6, Ltg20_7, Ltg20_8, Ltg20_9, Ltg20_10, Ltg20_11, Ltg20_12, Ltg20_13, Ltg20_14, Ltg20_15, Ltg20_16, Ltg20_17, Ltg20_18, Ltg20_19]
theorem Ltg20L_ok : AllOk Ltg20L := AllOk.seq AllOk.nil (by kernel_rfl)
/- selfstab/lexer.next -/
def Ltg21_0 : Fact := ⟨73, [.string Lttxt0, .int .i64 550], 1639, [], .tuple #[.agg #[.int .i64 3, .int .i64 550, .int .i64 551, .int .i64 0], .int .i64 0], 1643, [], 1639⟩
/- selfstab/lexer.next -/
def Ltg21_1 : Fact := ⟨73, [.string Lttxt0, .int .i64 552], 1646, [], .tuple #[.agg #[.int .i64 1, .int .i64 552, .int .i64 553, .int .i64 0], .int .i64 0], 1649, [], 1646⟩
/- selfstab/lexer.next -/
def Ltg21_2 : Fact := ⟨73, [.string Lttxt0, .int .i64 554], 1652, [], .tuple #[.agg #[.int .i64 3, .int .i64 554, .int .i64 555, .int .i64 0], .int .i64 0], 1656, [], 1652⟩
/- selfstab/lexer.next -/
def Ltg21_3 : Fact := ⟨73, [.string Lttxt0, .int .i64 556], 1659, [], .tuple #[.agg #[.int .i64 1, .int .i64 556, .int .i64 557, .int .i64 0], .int .i64 0], 1662, [], 1659⟩
/- selfstab/lexer.next -/
def Ltg21_4 : Fact := ⟨73, [.string Lttxt0, .int .i64 557], 1665, [], .tuple #[.agg #[.int .i64 3, .int .i64 557, .int .i64 558, .int .i64 0], .int .i64 0], 1669, [], 1665⟩
/- selfstab/lexer.next -/
def Ltg21_5 : Fact := ⟨73, [.string Lttxt0, .int .i64 558], 1672, [], .tuple #[.agg #[.int .i64 1, .int .i64 558, .int .i64 559, .int .i64 0], .int .i64 0], 1675, [], 1672⟩
/- selfstab/lexer.next -/
def Ltg21_6 : Fact := ⟨73, [.string Lttxt0, .int .i64 560], 1678, [], .tuple #[.agg #[.int .i64 3, .int .i64 560, .int .i64 561, .int .i64 0], .int .i64 0], 1682, [], 1678⟩
/- selfstab/lexer.next -/
def Ltg21_7 : Fact := ⟨73, [.string Lttxt0, .int .i64 562], 1685, [], .tuple #[.agg #[.int .i64 3, .int .i64 562, .int .i64 563, .int .i64 0], .int .i64 0], 1689, [], 1685⟩
/- selfstab/lexer.next -/
def Ltg21_8 : Fact := ⟨73, [.string Lttxt0, .int .i64 563], 1692, [], .tuple #[.agg #[.int .i64 1, .int .i64 563, .int .i64 566, .int .i64 0], .int .i64 0], 1695, [], 1692⟩
/- selfstab/lexer.next -/
def Ltg21_9 : Fact := ⟨73, [.string Lttxt0, .int .i64 567], 1698, [], .tuple #[.agg #[.int .i64 3, .int .i64 567, .int .i64 568, .int .i64 0], .int .i64 0], 1702, [], 1698⟩
/- selfstab/lexer.next -/
def Ltg21_10 : Fact := ⟨73, [.string Lttxt0, .int .i64 569], 1705, [], .tuple #[.agg #[.int .i64 2, .int .i64 569, .int .i64 570, .int .i64 1], .int .i64 0], 1708, [], 1705⟩
/- selfstab/lexer.next -/
def Ltg21_11 : Fact := ⟨73, [.string Lttxt0, .int .i64 570], 1711, [], .tuple #[.agg #[.int .i64 3, .int .i64 570, .int .i64 571, .int .i64 0], .int .i64 0], 1715, [], 1711⟩
/- selfstab/lexer.next -/
def Ltg21_12 : Fact := ⟨73, [.string Lttxt0, .int .i64 572], 1718, [], .tuple #[.agg #[.int .i64 3, .int .i64 572, .int .i64 573, .int .i64 0], .int .i64 0], 1722, [], 1718⟩
/- selfstab/lexer.next -/
def Ltg21_13 : Fact := ⟨73, [.string Lttxt0, .int .i64 574], 1725, [], .tuple #[.agg #[.int .i64 1, .int .i64 574, .int .i64 575, .int .i64 0], .int .i64 0], 1728, [], 1725⟩
/- selfstab/lexer.next -/
def Ltg21_14 : Fact := ⟨73, [.string Lttxt0, .int .i64 575], 1731, [], .tuple #[.agg #[.int .i64 3, .int .i64 575, .int .i64 576, .int .i64 0], .int .i64 0], 1735, [], 1731⟩
/- selfstab/lexer.next -/
def Ltg21_15 : Fact := ⟨73, [.string Lttxt0, .int .i64 577], 1738, [], .tuple #[.agg #[.int .i64 3, .int .i64 577, .int .i64 578, .int .i64 0], .int .i64 0], 1742, [], 1738⟩
/- selfstab/lexer.next -/
def Ltg21_16 : Fact := ⟨73, [.string Lttxt0, .int .i64 579], 1745, [], .tuple #[.agg #[.int .i64 1, .int .i64 579, .int .i64 580, .int .i64 0], .int .i64 0], 1748, [], 1745⟩
/- selfstab/lexer.next -/
def Ltg21_17 : Fact := ⟨73, [.string Lttxt0, .int .i64 580], 1751, [], .tuple #[.agg #[.int .i64 3, .int .i64 580, .int .i64 581, .int .i64 0], .int .i64 0], 1755, [], 1751⟩
/- selfstab/lexer.next -/
def Ltg21_18 : Fact := ⟨73, [.string Lttxt0, .int .i64 582], 1758, [], .tuple #[.agg #[.int .i64 1, .int .i64 582, .int .i64 583, .int .i64 0], .int .i64 0], 1761, [], 1758⟩
/- selfstab/lexer.next -/
def Ltg21_19 : Fact := ⟨73, [.string Lttxt0, .int .i64 584], 1764, [], .tuple #[.agg #[.int .i64 3, .int .i64 584, .int .i64 586, .int .i64 0], .int .i64 0], 1768, [], 1764⟩
def Ltg21L : List Fact := [Ltg21_0, Ltg21_1, Ltg21_2, Ltg21_3, Ltg21_4, Ltg21_5, Ltg21_6, Ltg21_7, Ltg21_8, Ltg21_9, Ltg21_10, Ltg21_11, Ltg21_12, Ltg21_13, Ltg21_14, Ltg21_15, Ltg21_16, Ltg21_17, Ltg21_18, Ltg21_19]
theorem Ltg21L_ok : AllOk Ltg21L := AllOk.seq AllOk.nil (by kernel_rfl)
/- selfstab/lexer.next -/
def Ltg22_0 : Fact := ⟨73, [.string Lttxt0, .int .i64 587], 1771, [], .tuple #[.agg #[.int .i64 1, .int .i64 587, .int .i64 590, .int .i64 0], .int .i64 0], 1774, [], 1771⟩
/- selfstab/lexer.next -/
def Ltg22_1 : Fact := ⟨73, [.string Lttxt0, .int .i64 590], 1777, [], .tuple #[.agg #[.int .i64 3, .int .i64 590, .int .i64 591, .int .i64 0], .int .i64 0], 1781, [], 1777⟩
/- selfstab/lexer.next -/
def Ltg22_2 : Fact := ⟨73, [.string Lttxt0, .int .i64 591], 1784, [], .tuple #[.agg #[.int .i64 1, .int .i64 591, .int .i64 592, .int .i64 0], .int .i64 0], 1787, [], 1784⟩
/- selfstab/lexer.next -/
def Ltg22_3 : Fact := ⟨73, [.string Lttxt0, .int .i64 592], 1790, [], .tuple #[.agg #[.int .i64 3, .int .i64 592, .int .i64 593, .int .i64 0], .int .i64 0], 1794, [], 1790⟩
/- selfstab/lexer.next -/
def Ltg22_4 : Fact := ⟨73, [.string Lttxt0, .int .i64 593], 1797, [], .tuple #[.agg #[.int .i64 1, .int .i64 593, .int .i64 594, .int .i64 0], .int .i64 0], 1800, [], 1797⟩
/- selfstab/lexer.next -/
def Ltg22_5 : Fact := ⟨73, [.string Lttxt0, .int .i64 595], 1803, [], .tuple #[.agg #[.int .i64 3, .int .i64 595, .int .i64 596, .int .i64 0], .int .i64 0], 1807, [], 1803⟩
/- selfstab/lexer.next -/
def Ltg22_6 : Fact := ⟨73, [.string Lttxt0, .int .i64 597], 1810, [], .tuple #[.agg #[.int .i64 2, .int .i64 597, .int .i64 598, .int .i64 1], .int .i64 0], 1813, [], 1810⟩
/- selfstab/lexer.next -/
def Ltg22_7 : Fact := ⟨73, [.string Lttxt0, .int .i64 599], 1816, [], .tuple #[.agg #[.int .i64 3, .int .i64 599, .int .i64 600, .int .i64 0], .int .i64 0], 1820, [], 1816⟩
/- selfstab/lexer.next -/
def Ltg22_8 : Fact := ⟨73, [.string Lttxt0, .int .i64 601], 1823, [], .tuple #[.agg #[.int .i64 1, .int .i64 601, .int .i64 602, .int .i64 0], .int .i64 0], 1826, [], 1823⟩
/- selfstab/lexer.next -/
def Ltg22_9 : Fact := ⟨73, [.string Lttxt0, .int .i64 603], 1829, [], .tuple #[.agg #[.int .i64 3, .int .i64 603, .int .i64 604, .int .i64 0], .int .i64 0], 1833, [], 1829⟩
/- selfstab/lexer.next -/
def Ltg22_10 : Fact := ⟨73, [.string Lttxt0, .int .i64 605], 1836, [], .tuple #[.agg #[.int .i64 1, .int .i64 605, .int .i64 606, .int .i64 0], .int .i64 0], 1839, [], 1836⟩
/- selfstab/lexer.next -/
def Ltg22_11 : Fact := ⟨73, [.string Lttxt0, .int .i64 606], 1842, [], .tuple #[.agg #[.int .i64 3, .int .i64 606, .int .i64 607, .int .i64 0], .int .i64 0], 1846, [], 1842⟩
/- selfstab/lexer.next -/
def Ltg22_12 : Fact := ⟨73, [.string Lttxt0, .int .i64 607], 1849, [], .tuple #[.agg #[.int .i64 1, .int .i64 607, .int .i64 611, .int .i64 0], .int .i64 0], 1852, [], 1849⟩
/- selfstab/lexer.next -/
def Ltg22_13 : Fact := ⟨73, [.string Lttxt0, .int .i64 612], 1855, [], .tuple #[.agg #[.int .i64 3, .int .i64 612, .int .i64 613, .int .i64 0], .int .i64 0], 1859, [], 1855⟩
/- selfstab/lexer.next -/
def Ltg22_14 : Fact := ⟨73, [.string Lttxt0, .int .i64 614], 1862, [], .tuple #[.agg #[.int .i64 1, .int .i64 614, .int .i64 615, .int .i64 0], .int .i64 0], 1865, [], 1862⟩
/- selfstab/lexer.next -/
def Ltg22_15 : Fact := ⟨73, [.string Lttxt0, .int .i64 616], 1868, [], .tuple #[.agg #[.int .i64 3, .int .i64 616, .int .i64 617, .int .i64 0], .int .i64 0], 1872, [], 1868⟩
/- selfstab/lexer.next -/
def Ltg22_16 : Fact := ⟨73, [.string Lttxt0, .int .i64 618], 1875, [], .tuple #[.agg #[.int .i64 1, .int .i64 618, .int .i64 619, .int .i64 0], .int .i64 0], 1878, [], 1875⟩
/- selfstab/lexer.next -/
def Ltg22_17 : Fact := ⟨73, [.string Lttxt0, .int .i64 619], 1881, [], .tuple #[.agg #[.int .i64 3, .int .i64 619, .int .i64 620, .int .i64 0], .int .i64 0], 1885, [], 1881⟩
/- selfstab/lexer.next -/
def Ltg22_18 : Fact := ⟨73, [.string Lttxt0, .int .i64 620], 1888, [], .tuple #[.agg #[.int .i64 1, .int .i64 620, .int .i64 621, .int .i64 0], .int .i64 0], 1891, [], 1888⟩
/- selfstab/lexer.next -/
def Ltg22_19 : Fact := ⟨73, [.string Lttxt0, .int .i64 622], 1894, [], .tuple #[.agg #[.int .i64 3, .int .i64 622, .int .i64 623, .int .i64 0], .int .i64 0], 1898, [], 1894⟩
def Ltg22L : List Fact := [Ltg22_0, Ltg22_1, Ltg22_2, Ltg22_3, Ltg22_4, Ltg22_5, Ltg22_6, Ltg22_7, Ltg22_8, Ltg22_9, Ltg22_10, Ltg22_11, Ltg22_12, Ltg22_13, Ltg22_14, Ltg22_15, Ltg22_16, Ltg22_17, Ltg22_18, Ltg22_19]
theorem Ltg22L_ok : AllOk Ltg22L := AllOk.seq AllOk.nil (by kernel_rfl)
/- selfstab/lexer.next -/
def Ltg23_0 : Fact := ⟨73, [.string Lttxt0, .int .i64 624], 1901, [], .tuple #[.agg #[.int .i64 3, .int .i64 624, .int .i64 625, .int .i64 0], .int .i64 0], 1905, [], 1901⟩
/- selfstab/lexer.next -/
def Ltg23_1 : Fact := ⟨73, [.string Lttxt0, .int .i64 625], 1908, [], .tuple #[.agg #[.int .i64 1, .int .i64 625, .int .i64 628, .int .i64 0], .int .i64 0], 1911, [], 1908⟩
/- selfstab/lexer.next -/
def Ltg23_2 : Fact := ⟨73, [.string Lttxt0, .int .i64 629], 1914, [], .tuple #[.agg #[.int .i64 3, .int .i64 629, .int .i64 630, .int .i64 0], .int .i64 0], 1918, [], 1914⟩
/- selfstab/lexer.next -/
def Ltg23_3 : Fact := ⟨73, [.string Lttxt0, .int .i64 631], 1921, [], .tuple #[.agg #[.int .i64 2, .int .i64 631, .int .i64 632, .int .i64 1], .int .i64 0], 1924, [], 1921⟩
/- selfstab/lexer.next -/
def Ltg23_4 : Fact := ⟨73, [.string Lttxt0, .int .i64 632], 1927, [], .tuple #[.agg #[.int .i64 3, .int .i64 632, .int .i64 633, .int .i64 0], .int .i64 0], 1931, [], 1927⟩
/- selfstab/lexer.next -/
def Ltg23_5 : Fact := ⟨73, [.string Lttxt0, .int .i64 634], 1934, [], .tuple #[.agg #[.int .i64 3, .int .i64 634, .int .i64 635, .int .i64 0], .int .i64 0], 1938, [], 1934⟩
/- selfstab/lexer.next -/
def Ltg23_6 : Fact := ⟨73, [.string Lttxt0, .int .i64 636], 1941, [], .tuple #[.agg #[.int .i64 1, .int .i64 636, .int .i64 637, .int .i64 0], .int .i64 0], 1944, [], 1941⟩
/- selfstab/lexer.next -/
def Ltg23_7 : Fact := ⟨73, [.string Lttxt0, .int .i64 637], 1947, [], .tuple #[.agg #[.int .i64 3, .int .i64 637, .int .i64 638, .int .i64 0], .int .i64 0], 1951, [], 1947⟩
/- selfstab/lexer.next -/
def Ltg23_8 : Fact := ⟨73, [.string Lttxt0, .int .i64 639], 1954, [], .tuple #[.agg #[.int .i64 3, .int .i64 639, .int .i64 640, .int .i64 0], .int .i64 0], 1958, [], 1954⟩
/- selfstab/lexer.next -/
def Ltg23_9 : Fact := ⟨73, [.string Lttxt0, .int .i64 641], 1961, [], .tuple #[.agg #[.int .i64 1, .int .i64 641, .int .i64 642, .int .i64 0], .int .i64 0], 1964, [], 1961⟩
/- selfstab/lexer.next -/
def Ltg23_10 : Fact := ⟨73, [.string Lttxt0, .int .i64 643], 1967, [], .tuple #[.agg #[.int .i64 3, .int .i64 643, .int .i64 644, .int .i64 0], .int .i64 0], 1971, [], 1967⟩
/- selfstab/lexer.next -/
def Ltg23_11 : Fact := ⟨73, [.string Lttxt0, .int .i64 645], 1974, [], .tuple #[.agg #[.int .i64 2, .int .i64 645, .int .i64 646, .int .i64 1], .int .i64 0], 1977, [], 1974⟩
/- selfstab/lexer.next -/
def Ltg23_12 : Fact := ⟨73, [.string Lttxt0, .int .i64 646], 1980, [], .tuple #[.agg #[.int .i64 3, .int .i64 646, .int .i64 647, .int .i64 0], .int .i64 0], 1984, [], 1980⟩
/- selfstab/lexer.next -/
def Ltg23_13 : Fact := ⟨73, [.string Lttxt0, .int .i64 648], 1987, [], .tuple #[.agg #[.int .i64 1, .int .i64 648, .int .i64 649, .int .i64 0], .int .i64 0], 1990, [], 1987⟩
/- selfstab/lexer.next -/
def Ltg23_14 : Fact := ⟨73, [.string Lttxt0, .int .i64 650], 1993, [], .tuple #[.agg #[.int .i64 3, .int .i64 650, .int .i64 652, .int .i64 0], .int .i64 0], 1997, [], 1993⟩
/- selfstab/lexer.next -/
def Ltg23_15 : Fact := ⟨73, [.string Lttxt0, .int .i64 653], 2000, [], .tuple #[.agg #[.int .i64 1, .int .i64 653, .int .i64 658, .int .i64 0], .int .i64 0], 2003, [], 2000⟩
/- selfstab/lexer.next -/
def Ltg23_16 : Fact := ⟨73, [.string Lttxt0, .int .i64 658], 2006, [], .tuple #[.agg #[.int .i64 3, .int .i64 658, .int .i64 659, .int .i64 0], .int .i64 0], 2010, [], 2006⟩
/- selfstab/lexer.next -/
def Ltg23_17 : Fact := ⟨73, [.string Lttxt0, .int .i64 659], 2013, [], .tuple #[.agg #[.int .i64 1, .int .i64 659, .int .i64 660, .int .i64 0], .int .i64 0], 2016, [], 2013⟩
/- selfstab/lexer.next -/
def Ltg23_18 : Fact := ⟨73, [.string Lttxt0, .int .i64 660], 2019, [], .tuple #[.agg #[.int .i64 3, .int .i64 660, .int .i64 661, .int .i64 0], .int .i64 0], 2023, [], 2019⟩
/- selfstab/lexer.next -/
def Ltg23_19 : Fact := ⟨73, [.string Lttxt0, .int .i64 661], 2026, [], .tuple #[.agg #[.int .i64 1, .int .i64 661, .int .i64 665, .int .i64 0], .int .i64 0], 2029, [], 2026⟩
def Ltg23L : List Fact := [Ltg23_0, Ltg23_1, Ltg23_2, Ltg23_3, Ltg23_4, Ltg23_5, Ltg23_6, Ltg23_7, Ltg23_8, Ltg23_9, Ltg23_10, Ltg23_11, Ltg23_12, Ltg23_13, Ltg23_14, Ltg23_15, Ltg23_16, Ltg23_17, Ltg23_18, Ltg23_19]
theorem Ltg23L_ok : AllOk Ltg23L := AllOk.seq AllOk.nil (by kernel_rfl)
/- selfstab/lexer.next -/
def Ltg24_0 : Fact := ⟨73, [.string Lttxt0, .int .i64 666], 2032, [], .tuple #[.agg #[.int .i64 3, .int .i64 666, .int .i64 667, .int .i64 0], .int .i64 0], 2036, [], 2032⟩
/- selfstab/lexer.next -/
def Ltg24_1 : Fact := ⟨73, [.string Lttxt0, .int .i64 668], 2039, [], .tuple #[.agg #[.int .i64 1, .int .i64 668, .int .i64 669, .int .i64 0], .int .i64 0], 2042, [], 2039⟩
/- selfstab/lexer.next -/
def Ltg24_2 : Fact := ⟨73, [.string Lttxt0, .int .i64 670], 2045, [], .tuple #[.agg #[.int .i64 3, .int .i64 670, .int .i64 671, .int .i64 0], .int .i64 0], 2049, [], 2045⟩
/- selfstab/lexer.next -/
def Ltg24_3 : Fact := ⟨73, [.string Lttxt0, .int .i64 672], 2052, [], .tuple #[.agg #[.int .i64 1, .int .i64 672, .int .i64 673, .int .i64 0], .int .i64 0], 2055, [], 2052⟩
/- selfstab/lexer.next -/
def Ltg24_4 : Fact := ⟨73, [.string Lttxt0, .int .i64 673], 2058, [], .tuple #[.agg #[.int .i64 3, .int .i64 673, .int .i64 674, .int .i64 0], .int .i64 0], 2062, [], 2058⟩
/- selfstab/lexer.next -/
def Ltg24_5 : Fact := ⟨73, [.string Lttxt0, .int .i64 674], 2065, [], .tuple #[.agg #[.int .i64 1, .int .i64 674, .int .i64 675, .int .i64 0], .int .i64 0], 2068, [], 2065⟩
/- selfstab/lexer.next -/
def Ltg24_6 : Fact := ⟨73, [.string Lttxt0, .int .i64 676], 2071, [], .tuple #[.agg #[.int .i64 3, .int .i64 676, .int .i64 678, .int .i64 0], .int .i64 0], 2075, [], 2071⟩
/- selfstab/lexer.next -/
def Ltg24_7 : Fact := ⟨73, [.string Lttxt0, .int .i64 679], 2078, [], .tuple #[.agg #[.int .i64 1, .int .i64 679, .int .i64 682, .int .i64 0], .int .i64 0], 2081, [], 2078⟩
/- selfstab/lexer.next -/
def Ltg24_8 : Fact := ⟨73, [.string Lttxt0, .int .i64 682], 2084, [], .tuple #[.agg #[.int .i64 3, .int .i64 682, .int .i64 683, .int .i64 0], .int .i64 0], 2088, [], 2084⟩
/- selfstab/lexer.next -/
def Ltg24_9 : Fact := ⟨73, [.string Lttxt0, .int .i64 683], 2091, [], .tuple #[.agg #[.int .i64 1, .int .i64 683, .int .i64 684, .int .i64 0], .int .i64 0], 2094, [], 2091⟩
/- selfstab/lexer.next -/
def Ltg24_10 : Fact := ⟨73, [.string Lttxt0, .int .i64 684], 2097, [], .tuple #[.agg #[.int .i64 3, .int .i64 684, .int .i64 685, .int .i64 0], .int .i64 0], 2101, [], 2097⟩
/- selfstab/lexer.next -/
def Ltg24_11 : Fact := ⟨73, [.string Lttxt0, .int .i64 685], 2104, [], .tuple #[.agg #[.int .i64 1, .int .i64 685, .int .i64 686, .int .i64 0], .int .i64 0], 2107, [], 2104⟩
/- selfstab/lexer.next -/
def Ltg24_12 : Fact := ⟨73, [.string Lttxt0, .int .i64 687], 2110, [], .tuple #[.agg #[.int .i64 3, .int .i64 687, .int .i64 688, .int .i64 0], .int .i64 0], 2114, [], 2110⟩
/- selfstab/lexer.next -/
def Ltg24_13 : Fact := ⟨73, [.string Lttxt0, .int .i64 689], 2117, [], .tuple #[.agg #[.int .i64 2, .int .i64 689, .int .i64 690, .int .i64 1], .int .i64 0], 2120, [], 2117⟩
/- selfstab/lexer.next -/
def Ltg24_14 : Fact := ⟨73, [.string Lttxt0, .int .i64 691], 2123, [], .tuple #[.agg #[.int .i64 3, .int .i64 691, .int .i64 692, .int .i64 0], .int .i64 0], 2127, [], 2123⟩
/- selfstab/lexer.next -/
def Ltg24_15 : Fact := ⟨73, [.string Lttxt0, .int .i64 693], 2130, [], .tuple #[.agg #[.int .i64 1, .int .i64 693, .int .i64 694, .int .i64 0], .int .i64 0], 2133, [], 2130⟩
/- selfstab/lexer.next -/
def Ltg24_16 : Fact := ⟨73, [.string Lttxt0, .int .i64 695], 2136, [], .tuple #[.agg #[.int .i64 3, .int .i64 695, .int .i64 696, .int .i64 0], .int .i64 0], 2140, [], 2136⟩
/- selfstab/lexer.next -/
def Ltg24_17 : Fact := ⟨73, [.string Lttxt0, .int .i64 697], 2143, [], .tuple #[.agg #[.int .i64 1, .int .i64 697, .int .i64 698, .int .i64 0], .int .i64 0], 2146, [], 2143⟩
/- selfstab/lexer.next -/
def Ltg24_18 : Fact := ⟨73, [.string Lttxt0, .int .i64 698], 2149, [], .tuple #[.agg #[.int .i64 3, .int .i64 698, .int .i64 699, .int .i64 0], .int .i64 0], 2153, [], 2149⟩
/- selfstab/lexer.next -/
def Ltg24_19 : Fact := ⟨73, [.string Lttxt0, .int .i64 699], 2156, [], .tuple #[.agg #[.int .i64 1, .int .i64 699, .int .i64 703, .int .i64 0], .int .i64 0], 2159, [], 2156⟩
def Ltg24L : List Fact := [Ltg24_0, Ltg24_1, Ltg24_2, Ltg24_3, Ltg24_4, Ltg24_5, Ltg24_6, Ltg24_7, Ltg24_8, Ltg24_9, Ltg24_10, Ltg24_11, Ltg24_12, Ltg24_13, Ltg24_14, Ltg24_15, Ltg24_16, Ltg24_17, Ltg24_18, Ltg24_19]
theorem Ltg24L_ok : AllOk Ltg24L := AllOk.seq AllOk.nil (by kernel_rfl)
/- selfstab/lexer.next -/
def Ltg25_0 : Fact := ⟨73, [.string Lttxt0, .int .i64 704], 2162, [], .tuple #[.agg #[.int .i64 3, .int .i64 704, .int .i64 705, .int .i64 0], .int .i64 0], 2166, [], 2162⟩
/- selfstab/lexer.next -/
def Ltg25_1 : Fact := ⟨73, [.string Lttxt0, .int .i64 706], 2169, [], .tuple #[.agg #[.int .i64 1, .int .i64 706, .int .i64 707, .int .i64 0], .int .i64 0], 2172, [], 2169⟩
/- selfstab/lexer.next -/
def Ltg25_2 : Fact := ⟨73, [.string Lttxt0, .int .i64 708], 2175, [], .tuple #[.agg #[.int .i64 3, .int .i64 708, .int .i64 709, .int .i64 0], .int .i64 0], 2179, [], 2175⟩
/- selfstab/lexer.next -/
def Ltg25_3 : Fact := ⟨73, [.string Lttxt0, .int .i64 710], 2182, [], .tuple #[.agg #[.int .i64 1, .int .i64 710, .int .i64 711, .int .i64 0], .int .i64 0], 2185, [], 2182⟩
/- selfstab/lexer.next -/
def Ltg25_4 : Fact := ⟨73, [.string Lttxt0, .int .i64 711], 2188, [], .tuple #[.agg #[.int .i64 3, .int .i64 711, .int .i64 712, .int .i64 0], .int .i64 0], 2192, [], 2188⟩
/- selfstab/lexer.next -/
def Ltg25_5 : Fact := ⟨73, [.string Lttxt0, .int .i64 712], 2195, [], .tuple #[.agg #[.int .i64 1, .int .i64 712, .int .i64 713, .int .i64 0], .int .i64 0], 2198, [], 2195⟩
/- selfstab/lexer.next -/
def Ltg25_6 : Fact := ⟨73, [.string Lttxt0, .int .i64 714], 2201, [], .tuple #[.agg #[.int .i64 3, .int .i64 714, .int .i64 715, .int .i64 0], .int .i64 0], 2205, [], 2201⟩
/- selfstab/lexer.next -/
def Ltg25_7 : Fact := ⟨73, [.string Lttxt0, .int .i64 716], 2208, [], .tuple #[.agg #[.int .i64 3, .int .i64 716, .int .i64 717, .int .i64 0], .int .i64 0], 2212, [], 2208⟩
/- selfstab/lexer.next -/
def Ltg25_8 : Fact := ⟨73, [.string Lttxt0, .int .i64 717], 2215, [], .tuple #[.agg #[.int .i64 1, .int .i64 717, .int .i64 720, .int .i64 0], .int .i64 0], 2218, [], 2215⟩
/- selfstab/lexer.next -/
def Ltg25_9 : Fact := ⟨73, [.string Lttxt0, .int .i64 721], 2221, [], .tuple #[.agg #[.int .i64 3, .int .i64 721, .int .i64 722, .int .i64 0], .int .i64 0], 2225, [], 2221⟩
/- selfstab/lexer.next -/
def Ltg25_10 : Fact := ⟨73, [.string Lttxt0, .int .i64 723], 2228, [], .tuple #[.agg #[.int .i64 2, .int .i64 723, .int .i64 724, .int .i64 1], .int .i64 0], 2231, [], 2228⟩
/- selfstab/lexer.next -/
def Ltg25_11 : Fact := ⟨73, [.string Lttxt0, .int .i64 724], 2234, [], .tuple #[.agg #[.int .i64 3, .int .i64 724, .int .i64 725, .int .i64 0], .int .i64 0], 2238, [], 2234⟩
/- selfstab/lexer.next -/
def Ltg25_12 : Fact := ⟨73, [.string Lttxt0, .int .i64 726], 2241, [], .tuple #[.agg #[.int .i64 3, .int .i64 726, .int .i64 727, .int .i64 0], .int .i64 0], 2245, [], 2241⟩
/- selfstab/lexer.next -/
def Ltg25_13 : Fact := ⟨73, [.string Lttxt0, .int .i64 728], 2248, [], .tuple #[.agg #[.int .i64 1, .int .i64 728, .int .i64 729, .int .i64 0], .int .i64 0], 2251, [], 2248⟩
/- selfstab/lexer.next -/
def Ltg25_14 : Fact := ⟨73, [.string Lttxt0, .int .i64 729], 2254, [], .tuple #[.agg #[.int .i64 3, .int .i64 729, .int .i64 730, .int .i64 0], .int .i64 0], 2258, [], 2254⟩
/- selfstab/lexer.next -/
def Ltg25_15 : Fact := ⟨73, [.string Lttxt0, .int .i64 730], 2261, [], .tuple #[.agg #[.int .i64 3, .int .i64 730, .int .i64 731, .int .i64 0], .int .i64 0], 2265, [], 2261⟩
/- selfstab/lexer.next -/
def Ltg25_16 : Fact := ⟨73, [.string Lttxt0, .int .i64 731], 2268, [], .tuple #[.agg #[.int .i64 3, .int .i64 731, .int .i64 732, .int .i64 0], .int .i64 0], 2272, [], 2268⟩
def Ltg25L : List Fact := [Ltg25_0, Ltg25_1, Ltg25_2, Ltg25_3, Ltg25_4, Ltg25_5, Ltg25_6, Ltg25_7, Ltg25_8, Ltg25_9, Ltg25_10, Ltg25_11, Ltg25_12, Ltg25_13, Ltg25_14, Ltg25_15, Ltg25_16]
theorem Ltg25L_ok : AllOk Ltg25L := AllOk.seq AllOk.nil (by kernel_rfl)
/- (*selfstab/expr.Reader).Choice -/
def Ltg27_0 : Fact := ⟨140, [.pointer (some ⟨2275, 0, none⟩)], 2454, [⟨2274, 77, 4, Ltrow1⟩, ⟨2275, 44, 0, [.string Lttxt0, .slice (some ⟨2274, 204, none⟩) 297 CU, .slice (some ⟨2336, 0, none⟩) 3 CU, .string (by8 [108, 101, 97, 100, 101, 114]), .slice (some ⟨2338, 0, none⟩) 3 CU, .slice none 0 0, .slice (some ⟨2345, 0, none⟩) 1 CU]⟩, ⟨2336, 9, 1, [.string (by8 [108, 101, 97, 100]), .string (by8 [100]), .string (by8 [112])]⟩, ⟨2338, 33, 6, [.string (by8 [108, 101, 97, 100]), .int .i64 1, .int .i64 0, .int .i64 0, .int .i64 0, .int .i64 1, .string (by8 [100]), .int .i64 1, .int .i64 0, .int .i64 (-1), .int .i64 1, .int .i64 0, .string (by8 [112]), .int .i64 3, .int .i64 0, .int .i64 0, .int .i64 0, .int .i64 0]⟩, ⟨2345, 9, 1, [.string (by8 [111, 119, 110])]⟩], .slice (some ⟨2488, 0, none⟩) 5 CU, 2494, [⟨2275, 44, 0, [.string Lttxt0, .slice (some ⟨2274, 232, none⟩) 290 CU, .slice (some ⟨2336, 0, none⟩) 3 CU, .string (by8 [108, 101, 97, 100, 101, 114]), .slice (some ⟨2338, 0, none⟩) 3 CU, .slice none 0 0, .slice (some ⟨2345, 0, none⟩) 1 CU]⟩, ⟨2336, 9, 1, [.string (by8 [108, 101, 97, 100]), .string (by8 [100]), .string (by8 [112])]⟩, ⟨2338, 33, 6, [.string (by8 [108, 101, 97, 100]), .int .i64 1, .int .i64 0, .int .i64 0, .int .i64 0, .int .i64 1, .string (by8 [100]), .int .i64 1, .int .i64 0, .int .i64 (-1), .int .i64 1, .int .i64 0, .string (by8 [112]), .int .i64 3, .int .i64 0, .int .i64 0, .int .i64 0, .int .i64 0]⟩, ⟨2345, 9, 1, [.string (by8 [111, 119, 110])]⟩, ⟨2488, 169, 2, [.int .i64 30, .int .i64 0, .int .i64 33, .int .i64 0, .int .i64 7, .int .i64 0, .int .i64 1, .int .i64 1, .int .i64 6, .int .i64 0]⟩], 2275⟩
def Ltg27L : List Fact := [Ltg27_0]
theorem Ltg27L_ok : AllOk Ltg27L := AllOk.seq AllOk.nil (by kernel_rfl)
/- (*selfstab/expr.Reader).Choice -/
def Ltg30_0 : Fact := ⟨140, [.pointer (some ⟨2275, 0, none⟩)], 2775, [⟨2274, 77, 4, Ltrow1⟩, ⟨2275, 44, 0, [.string Lttxt0, .slice (some ⟨2274, 452, none⟩) 235 CU, .slice (some ⟨2336, 0, none⟩) 3 CU, .string (by8 [108, 101, 97, 100, 101, 114]), .slice (some ⟨2338, 0, none⟩) 3 CU, .slice (some ⟨2659, 0, none⟩) 1 CU, .slice (some ⟨2666, 0, none⟩) 2 CU]⟩, ⟨2336, 9, 1, [.string (by8 [108, 101, 97, 100]), .string (by8 [100]), .string (by8 [112])]⟩, ⟨2338, 33, 6, [.string (by8 [108, 101, 97, 100]), .int .i64 1, .int .i64 0, .int .i64 0, .int .i64 0, .int .i64 1, .string (by8 [100]), .int .i64 1, .int .i64 0, .int .i64 (-1), .int .i64 1, .int .i64 0, .string (by8 [112]), .int .i64 3, .int .i64 0, .int .i64 0, .int .i64 0, .int .i64 0]⟩, ⟨2600, 169, 2, Ltrow2⟩, ⟨2613, 169, 2, [.int .i64 8, .int .i64 0]⟩, ⟨2630, 169, 2, [.int .i64 1, .int .i64 0]⟩, ⟨2648, 169, 2, [.int .i64 4, .int .i64 0]⟩, ⟨2655, 138, 2, [.int .i64 0, .slice (some ⟨2613, 0, none⟩) 1 1, .int .i64 1, .slice (some ⟨2630, 0, none⟩) 1 1, .int .i64 2, .slice (some ⟨2648, 0, none⟩) 1 1]⟩, ⟨2659, 93, 3, [.string (by8 [111, 119, 110]), .slice (some ⟨2600, 0, none⟩) 33 CU, .slice (some ⟨2655, 0, none⟩) 3 CU]⟩, ⟨2666, 9, 1, [.string (by8 [111, 119, 110]), .string (by8 [106, 111, 105, 110])]⟩], .slice (some ⟨2809, 0, none⟩) 5 CU, 2815, [⟨2275, 44, 0, [.string Lttxt0, .slice (some ⟨2274, 480, none⟩) 228 CU, .slice (some ⟨2336, 0, none⟩) 3 CU, .string (by8 [108, 101, 97, 100, 101, 114]), .slice (some ⟨2338, 0, none⟩) 3 CU, .slice (some ⟨2659, 0, none⟩) 1 CU, .slice (some ⟨2666, 0, none⟩) 2 CU]⟩, ⟨2336, 9, 1, [.string (by8 [108, 101, 97, 100]), .string (by8 [100]), .string (by8 [112])]⟩, ⟨2338, 33, 6, [.string (by8 [108, 101, 97, 100]), .int .i64 1, .int .i64 0, .int .i64 0, .int .i64 0, .int .i64 1, .string (by8 [100]), .int .i64 1, .int .i64 0, .int .i64 (-1), .int .i64 1, .int .i64 0, .string (by8 [112]), .int .i64 3, .int .i64 0, .int .i64 0, .int .i64 0, .int .i64 0]⟩, ⟨2600, 169, 2, Ltrow2⟩, ⟨2613, 169, 2, [.int .i64 8, .int .i64 0]⟩, ⟨2630, 169, 2, [.int .i64 1, .int .i64 0]⟩, ⟨2648, 169, 2, [.int .i64 4, .int .i64 0]⟩, ⟨2655, 138, 2, [.int .i64 0, .slice (some ⟨2613, 0, none⟩) 1 1, .int .i64 1, .slice (some ⟨2630, 0, none⟩) 1 1, .int .i64 2, .slice (some ⟨2648, 0, none⟩) 1 1]⟩, ⟨2659, 93, 3, [.string (by8 [111, 119, 110]), .slice (some ⟨2600, 0, none⟩) 33 CU, .slice (some ⟨2655, 0, none⟩) 3 CU]⟩, ⟨2666, 9, 1, [.string (by8 [111, 119, 110]), .string (by8 [106, 111, 105, 110])]⟩, ⟨2809, 169, 2, [.int .i64 30, .int .i64 0, .int .i64 33, .int .i64 0, .int .i64 7, .int .i64 0, .int .i64 1, .int .i64 1, .int .i64 6, .int .i64 0]⟩], 2275⟩
def Ltg30L : List Fact := [Ltg30_0]
theorem Ltg30L_ok : AllOk Ltg30L := AllOk.seq AllOk.nil (by kernel_rfl)
end Ev
end Go.Proofs.YtbhjopjonoldmaaGreat
