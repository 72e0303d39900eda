/- The program's code as data, by number. -/
import Derived.Test.YtophpelggceknaaDoorPyC0
namespace Go.Proofs.PyC
open Go.Ev Go.Ev.L
set_option maxRecDepth 100000
noncomputable def tab : FuncId → Option FE := lookT [(5, c5), (7, c7), (8, c8), (9, c9), (10, c10), (11, c11), (12, c12), (13, c13), (16, c16), (17, c17), (20, c20), (21, c21), (30, c30), (31, c31), (32, c32), (33, c33), (34, c34), (35, c35), (36, c36), (37, c37), (39, c39), (40, c40), (41, c41), (42, c42), (43, c43), (44, c44), (52, c52), (53, c53), (54, c54), (55, c55), (56, c56), (58, c58), (59, c59), (60, c60), (63, c63), (64, c64), (65, c65), (66, c66), (67, c67), (68, c68)]
theorem tab_ok : ∀ f e, tab f = some e → fcompF Tryd.prog f = some e := lookT_ok (ac c5_ok (ac c7_ok (ac c8_ok (ac c9_ok (ac c10_ok (ac c11_ok (ac c12_ok (ac c13_ok (ac c16_ok (ac c17_ok (ac c20_ok (ac c21_ok (ac c30_ok (ac c31_ok (ac c32_ok (ac c33_ok (ac c34_ok (ac c35_ok (ac c36_ok (ac c37_ok (ac c39_ok (ac c40_ok (ac c41_ok (ac c42_ok (ac c43_ok (ac c44_ok (ac c52_ok (ac c53_ok (ac c54_ok (ac c55_ok (ac c56_ok (ac c58_ok (ac c59_ok (ac c60_ok (ac c63_ok (ac c64_ok (ac c65_ok (ac c66_ok (ac c67_ok (ac c68_ok (an)))))))))))))))))))))))))))))))))))))))))
end Go.Proofs.PyC
