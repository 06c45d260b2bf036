/- A part of Awake's run, checked. -/
import Derived.Test.YtdnclnacneakbaaGreatDoorPG
import Derived.Test.YtdnclnacneakbaaGreatDoorPH
import Derived.Test.YtdnclnacneakbaaGreatDoorPI
import Derived.Test.YtdnclnacneakbaaGreatDoorPJ
set_option linter.unusedVariables false
set_option linter.unusedSimpArgs false
set_option linter.unusedSectionVars false
set_option maxRecDepth 100000
namespace Go.Am
open Proofs
noncomputable def p15_45 : Piece := Piece.mk [.agg [.int .i64 2, .str [], .int .i64 0, .int .i64 0, .slice 5818 0 1 1 5]] 6954
  [(5499, .cells [.int .i64 9, .str [105, 110, 116], .int .i64 0, .int .i64 0, .nilslice]),
  (5536, .cells [.int .i64 9, .str [105, 110, 116], .int .i64 0, .int .i64 0, .nilslice]),
  (5552, .cells [.int .i64 7, .str [120], .int .i64 0, .int .i64 0, .slice 5499 0 1 1 5, .int .i64 7, .str [121], .int .i64 0, .int .i64 0, .slice 5536 0 1 1 5]),
  (5789, .cells [.int .i64 6, .str [], .int .i64 0, .int .i64 0, .slice 5552 0 2 2 5, .int .i64 9, .str [98, 111, 111, 108], .int .i64 0, .int .i64 0, .nilslice, .int .i64 11, .str [], .int .i64 0, .int .i64 0, .slice 6949 0 1 1 5]),
  (5818, .cells [.int .i64 5, .str [102], .int .i64 0, .int .i64 0, .slice 5789 0 3 3 5]),
  (6353, .cells [.int .i64 20, .str [120], .int .i64 0, .int .i64 0, .nilslice, .int .i64 24, .str [54], .int .i64 0, .int .i64 0, .nilslice]),
  (6880, .cells [.int .i64 29, .str [43], .int .i64 0, .int .i64 0, .slice 6353 0 2 2 5, .int .i64 20, .str [121], .int .i64 0, .int .i64 0, .nilslice]),
  (6946, .cells [.int .i64 29, .str [62], .int .i64 0, .int .i64 0, .slice 6880 0 2 2 5]),
  (6949, .cells [.int .i64 17, .str [], .int .i64 0, .int .i64 0, .slice 6946 0 1 1 5])]
  (.tuple [.agg [.int .i64 2, .str [], .int .i64 0, .int .i64 0, .slice 5818 0 1 1 5, .slice 9301 0 15 15 3, .slice 9303 0 15 15 1, .nilslice, .slice 9348 0 1 1 9], .nilslice, .int .i64 0]) 9383 []
  [(9301, .cells [.int .i64 0, .int .i64 0, .str [], .int .i64 0, .int .i64 0, .str [], .int .i64 0, .int .i64 0, .str [], .int .i64 0, .int .i64 0, .str [], .int .i64 0, .int .i64 0, .str [], .int .i64 0, .int .i64 0, .str [], .int .i64 0, .int .i64 0, .str [], .int .i64 0, .int .i64 0, .str [], .int .i64 0, .int .i64 0, .str [], .int .i64 0, .int .i64 0, .str [], .int .i64 2, .int .i64 0, .str [], .int .i64 1, .int .i64 0, .str [], .int .i64 1, .int .i64 0, .str [], .int .i64 1, .int .i64 0, .str [], .int .i64 1, .int .i64 0, .str []]),
  (9303, .cells [.int .i64 (-1), .int .i64 (-1), .int .i64 (-1), .int .i64 0, .int .i64 (-1), .int .i64 1, .int .i64 (-1), .int .i64 (-1), .int .i64 (-1), .int .i64 (-1), .int .i64 (-1), .int .i64 (-1), .int .i64 0, .int .i64 (-1), .int .i64 1]),
  (9314, .cells [.str [120], .int .i64 1, .int .i64 0, .str [], .int .i64 0, .int .i64 3, .bool false, .bool false, .str [121], .int .i64 1, .int .i64 0, .str [], .int .i64 1, .int .i64 5, .bool false, .bool false]),
  (9348, .cells [.str [102], .int .i64 1, .int .i64 2, .int .i64 2, .int .i64 0, .str [], .slice 9314 0 2 2 8, .int .i64 2, .nilslice])]
theorem p15_45_run : pieceRun (runWith [(88, p11_88), (90, p12_90), (91, p13_91), (100, p14_100)]) 45 p15_45 = true := by kernel_rfl
theorem p15_45_ok : CallOk Tryz.prog (fun f' xs H => if f' = 45 then piecePrim p15_45 xs H else none) :=
  piece_ok (by
    intro x hx
    simp only [List.mem_cons, List.not_mem_nil, or_false] at hx
    rcases hx with rfl | rfl | rfl | rfl
    · exact p11_88_ok
    · exact p12_90_ok
    · exact p13_91_ok
    · exact p14_100_ok
    ) p15_45_run
noncomputable def p21_45 : Piece := Piece.mk [.agg [.int .i64 2, .str [], .int .i64 0, .int .i64 0, .slice 10276 0 1 1 5]] 10277
  [(10049, .cells [.int .i64 9, .str [105, 110, 116], .int .i64 0, .int .i64 0, .nilslice]),
  (10086, .cells [.int .i64 9, .str [105, 110, 116], .int .i64 0, .int .i64 0, .nilslice]),
  (10102, .cells [.int .i64 7, .str [118, 49], .int .i64 0, .int .i64 0, .slice 10049 0 1 1 5, .int .i64 7, .str [118, 50], .int .i64 0, .int .i64 0, .slice 10086 0 1 1 5]),
  (10183, .cells [.int .i64 20, .str [118, 49], .int .i64 0, .int .i64 0, .nilslice, .int .i64 24, .str [54], .int .i64 0, .int .i64 0, .nilslice]),
  (10210, .cells [.int .i64 29, .str [43], .int .i64 0, .int .i64 0, .slice 10183 0 2 2 5, .int .i64 20, .str [118, 50], .int .i64 0, .int .i64 0, .nilslice]),
  (10219, .cells [.int .i64 29, .str [62], .int .i64 0, .int .i64 0, .slice 10210 0 2 2 5]),
  (10236, .cells [.int .i64 17, .str [], .int .i64 0, .int .i64 0, .slice 10219 0 1 1 5]),
  (10255, .cells [.int .i64 6, .str [], .int .i64 0, .int .i64 0, .slice 10102 0 2 2 5, .int .i64 9, .str [98, 111, 111, 108], .int .i64 0, .int .i64 0, .nilslice, .int .i64 11, .str [], .int .i64 0, .int .i64 0, .slice 10236 0 1 1 5]),
  (10276, .cells [.int .i64 5, .str [102], .int .i64 0, .int .i64 0, .slice 10255 0 3 3 5])]
  (.tuple [.agg [.int .i64 2, .str [], .int .i64 0, .int .i64 0, .slice 10276 0 1 1 5, .slice 12624 0 15 15 3, .slice 12626 0 15 15 1, .nilslice, .slice 12671 0 1 1 9], .nilslice, .int .i64 0]) 12706 []
  [(12624, .cells [.int .i64 0, .int .i64 0, .str [], .int .i64 0, .int .i64 0, .str [], .int .i64 0, .int .i64 0, .str [], .int .i64 0, .int .i64 0, .str [], .int .i64 0, .int .i64 0, .str [], .int .i64 0, .int .i64 0, .str [], .int .i64 0, .int .i64 0, .str [], .int .i64 0, .int .i64 0, .str [], .int .i64 0, .int .i64 0, .str [], .int .i64 0, .int .i64 0, .str [], .int .i64 2, .int .i64 0, .str [], .int .i64 1, .int .i64 0, .str [], .int .i64 1, .int .i64 0, .str [], .int .i64 1, .int .i64 0, .str [], .int .i64 1, .int .i64 0, .str []]),
  (12626, .cells [.int .i64 (-1), .int .i64 (-1), .int .i64 (-1), .int .i64 0, .int .i64 (-1), .int .i64 1, .int .i64 (-1), .int .i64 (-1), .int .i64 (-1), .int .i64 (-1), .int .i64 (-1), .int .i64 (-1), .int .i64 0, .int .i64 (-1), .int .i64 1]),
  (12637, .cells [.str [118, 49], .int .i64 1, .int .i64 0, .str [], .int .i64 0, .int .i64 3, .bool false, .bool false, .str [118, 50], .int .i64 1, .int .i64 0, .str [], .int .i64 1, .int .i64 5, .bool false, .bool false]),
  (12671, .cells [.str [102], .int .i64 1, .int .i64 2, .int .i64 2, .int .i64 0, .str [], .slice 12637 0 2 2 8, .int .i64 2, .nilslice])]
theorem p21_45_run : pieceRun (runWith [(88, p17_88), (90, p18_90), (91, p19_91), (100, p20_100)]) 45 p21_45 = true := by kernel_rfl
theorem p21_45_ok : CallOk Tryz.prog (fun f' xs H => if f' = 45 then piecePrim p21_45 xs H else none) :=
  piece_ok (by
    intro x hx
    simp only [List.mem_cons, List.not_mem_nil, or_false] at hx
    rcases hx with rfl | rfl | rfl | rfl
    · exact p17_88_ok
    · exact p18_90_ok
    · exact p19_91_ok
    · exact p20_100_ok
    ) p21_45_run
noncomputable def p23_14 : Piece := Piece.mk [.agg [.int .i64 2, .str [], .int .i64 0, .int .i64 58, .slice 379 0 1 1 5, .slice 2021 0 19 19 3, .slice 2023 0 19 19 1, .slice 1856 0 0 0 2, .slice 2760 0 1 1 9], .str [102], .agg [.int .i64 4, .int .i64 0]] 5461
  [(198, .cells [.int .i64 9, .str [105, 110, 116], .int .i64 10, .int .i64 13, .nilslice]),
  (219, .cells [.int .i64 9, .str [105, 110, 116], .int .i64 18, .int .i64 21, .nilslice]),
  (223, .cells [.int .i64 7, .str [120], .int .i64 7, .int .i64 13, .slice 198 0 1 1 5, .int .i64 7, .str [121], .int .i64 15, .int .i64 21, .slice 219 0 1 1 5]),
  (302, .cells [.int .i64 24, .str [50], .int .i64 42, .int .i64 43, .nilslice, .int .i64 24, .str [51], .int .i64 46, .int .i64 47, .nilslice]),
  (308, .cells [.int .i64 20, .str [120], .int .i64 38, .int .i64 39, .nilslice, .int .i64 29, .str [42], .int .i64 42, .int .i64 47, .slice 302 0 2 2 5]),
  (344, .cells [.int .i64 24, .str [49], .int .i64 50, .int .i64 51, .nilslice, .int .i64 20, .str [121], .int .i64 54, .int .i64 55, .nilslice]),
  (353, .cells [.int .i64 29, .str [43], .int .i64 38, .int .i64 47, .slice 308 0 2 2 5, .int .i64 29, .str [42], .int .i64 50, .int .i64 55, .slice 344 0 2 2 5]),
  (364, .cells [.int .i64 29, .str [62], .int .i64 38, .int .i64 55, .slice 353 0 2 2 5]),
  (368, .cells [.int .i64 17, .str [], .int .i64 31, .int .i64 56, .slice 364 0 1 1 5]),
  (375, .cells [.int .i64 6, .str [], .int .i64 6, .int .i64 22, .slice 223 0 2 2 5, .int .i64 9, .str [98, 111, 111, 108], .int .i64 24, .int .i64 28, .nilslice, .int .i64 11, .str [], .int .i64 29, .int .i64 58, .slice 368 0 1 1 5]),
  (379, .cells [.int .i64 5, .str [102], .int .i64 0, .int .i64 58, .slice 375 0 3 3 5]),
  (1856, .cells []),
  (2021, .cells [.int .i64 0, .int .i64 0, .str [], .int .i64 0, .int .i64 0, .str [], .int .i64 0, .int .i64 0, .str [], .int .i64 0, .int .i64 0, .str [], .int .i64 0, .int .i64 0, .str [], .int .i64 0, .int .i64 0, .str [], .int .i64 0, .int .i64 0, .str [], .int .i64 0, .int .i64 0, .str [], .int .i64 0, .int .i64 0, .str [], .int .i64 0, .int .i64 0, .str [], .int .i64 2, .int .i64 0, .str [], .int .i64 1, .int .i64 0, .str [], .int .i64 1, .int .i64 0, .str [], .int .i64 1, .int .i64 0, .str [], .int .i64 1, .int .i64 0, .str [], .int .i64 1, .int .i64 0, .str [], .int .i64 1, .int .i64 0, .str [], .int .i64 1, .int .i64 0, .str [], .int .i64 1, .int .i64 0, .str []]),
  (2023, .cells [.int .i64 (-1), .int .i64 (-1), .int .i64 (-1), .int .i64 0, .int .i64 (-1), .int .i64 1, .int .i64 (-1), .int .i64 (-1), .int .i64 (-1), .int .i64 (-1), .int .i64 (-1), .int .i64 (-1), .int .i64 0, .int .i64 (-1), .int .i64 (-1), .int .i64 (-1), .int .i64 (-1), .int .i64 (-1), .int .i64 1]),
  (2393, .cells [.str [120], .int .i64 1, .int .i64 0, .str [], .int .i64 0, .int .i64 3, .bool false, .bool false, .str [121], .int .i64 1, .int .i64 0, .str [], .int .i64 1, .int .i64 5, .bool false, .bool false]),
  (2760, .cells [.str [102], .int .i64 1, .int .i64 2, .int .i64 2, .int .i64 0, .str [], .slice 2393 0 2 2 8, .int .i64 2, .nilslice])]
  (.tuple [.agg [.int .i64 2, .str [], .int .i64 0, .int .i64 0, .slice 13105 0 1 1 5], .int .i64 0]) 13139 []
  [(12738, .cells [.int .i64 9, .str [105, 110, 116], .int .i64 0, .int .i64 0, .nilslice]),
  (12768, .cells [.int .i64 9, .str [105, 110, 116], .int .i64 0, .int .i64 0, .nilslice]),
  (12777, .cells [.int .i64 7, .str [118, 49], .int .i64 0, .int .i64 0, .slice 12738 0 1 1 5, .int .i64 7, .str [118, 50], .int .i64 0, .int .i64 0, .slice 12768 0 1 1 5]),
  (12858, .cells [.int .i64 24, .str [54], .int .i64 0, .int .i64 0, .nilslice, .int .i64 20, .str [118, 49], .int .i64 0, .int .i64 0, .nilslice]),
  (13029, .cells [.int .i64 20, .str [118, 50], .int .i64 0, .int .i64 0, .nilslice, .int .i64 29, .str [43], .int .i64 0, .int .i64 0, .slice 12858 0 2 2 5]),
  (13048, .cells [.int .i64 29, .str [60], .int .i64 0, .int .i64 0, .slice 13029 0 2 2 5]),
  (13065, .cells [.int .i64 17, .str [], .int .i64 0, .int .i64 0, .slice 13048 0 1 1 5]),
  (13084, .cells [.int .i64 6, .str [], .int .i64 0, .int .i64 0, .slice 12777 0 2 2 5, .int .i64 9, .str [98, 111, 111, 108], .int .i64 0, .int .i64 0, .nilslice, .int .i64 11, .str [], .int .i64 0, .int .i64 0, .slice 13065 0 1 1 5]),
  (13105, .cells [.int .i64 5, .str [102], .int .i64 0, .int .i64 0, .slice 13084 0 3 3 5])]
theorem p23_14_run : pieceRun (runWith [(12, p10_12), (45, p15_45), (13, p16_13), (45, p21_45), (16, p22_16)]) 14 p23_14 = true := by kernel_rfl
theorem p23_14_ok : CallOk Tryz.prog (fun f' xs H => if f' = 14 then piecePrim p23_14 xs H else none) :=
  piece_ok (by
    intro x hx
    simp only [List.mem_cons, List.not_mem_nil, or_false] at hx
    rcases hx with rfl | rfl | rfl | rfl | rfl
    · exact p10_12_ok
    · exact p15_45_ok
    · exact p16_13_ok
    · exact p21_45_ok
    · exact p22_16_ok
    ) p23_14_run
end Go.Am
