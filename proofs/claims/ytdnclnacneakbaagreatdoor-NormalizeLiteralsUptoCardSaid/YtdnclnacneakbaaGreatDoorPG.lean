/- A part of Awake's run, checked. -/
import Derived.Test.YtdnclnacneakbaaGreatDoorL0
import Derived.Test.YtdnclnacneakbaaGreatDoorPA
import Derived.Test.YtdnclnacneakbaaGreatDoorPB
import Derived.Test.YtdnclnacneakbaaGreatDoorPC
import Derived.Test.YtdnclnacneakbaaGreatDoorPD
set_option linter.unusedVariables false
set_option linter.unusedSimpArgs false
set_option linter.unusedSectionVars false
section
set_option maxRecDepth 100000
namespace Go.Am
open Proofs
noncomputable def p6_66 : Piece := Piece.mk [.agg [.int .i64 2, .str [], .int .i64 0, .int .i64 58, .slice 379 0 1 1 5]] 525
  [(198, .cells [.int .i64 9, .str [105, 110, 116], .int .i64 10, .int .i64 13, .nilslice]),
  (219, .cells [.int .i64 9, .str [105, 110, 116], .int .i64 18, .int .i64 21, .nilslice]),
  (223, .cells [.int .i64 7, .str [120], .int .i64 7, .int .i64 13, .slice 198 0 1 1 5, .int .i64 7, .str [121], .int .i64 15, .int .i64 21, .slice 219 0 1 1 5]),
  (302, .cells [.int .i64 24, .str [50], .int .i64 42, .int .i64 43, .nilslice, .int .i64 24, .str [51], .int .i64 46, .int .i64 47, .nilslice]),
  (308, .cells [.int .i64 20, .str [120], .int .i64 38, .int .i64 39, .nilslice, .int .i64 29, .str [42], .int .i64 42, .int .i64 47, .slice 302 0 2 2 5]),
  (344, .cells [.int .i64 24, .str [49], .int .i64 50, .int .i64 51, .nilslice, .int .i64 20, .str [121], .int .i64 54, .int .i64 55, .nilslice]),
  (353, .cells [.int .i64 29, .str [43], .int .i64 38, .int .i64 47, .slice 308 0 2 2 5, .int .i64 29, .str [42], .int .i64 50, .int .i64 55, .slice 344 0 2 2 5]),
  (364, .cells [.int .i64 29, .str [62], .int .i64 38, .int .i64 55, .slice 353 0 2 2 5]),
  (368, .cells [.int .i64 17, .str [], .int .i64 31, .int .i64 56, .slice 364 0 1 1 5]),
  (375, .cells [.int .i64 6, .str [], .int .i64 6, .int .i64 22, .slice 223 0 2 2 5, .int .i64 9, .str [98, 111, 111, 108], .int .i64 24, .int .i64 28, .nilslice, .int .i64 11, .str [], .int .i64 29, .int .i64 58, .slice 368 0 1 1 5]),
  (379, .cells [.int .i64 5, .str [102], .int .i64 0, .int .i64 58, .slice 375 0 3 3 5])]
  (.tuple [.agg [.int .i64 2, .str [], .int .i64 0, .int .i64 58, .slice 379 0 1 1 5, .slice 2021 0 19 19 3, .slice 2023 0 19 19 1, .slice 1856 0 0 0 2, .slice 2760 0 1 1 9], .nilslice, .int .i64 0]) 2781 []
  [(1856, .cells []),
  (2021, .cells [.int .i64 0, .int .i64 0, .str [], .int .i64 0, .int .i64 0, .str [], .int .i64 0, .int .i64 0, .str [], .int .i64 0, .int .i64 0, .str [], .int .i64 0, .int .i64 0, .str [], .int .i64 0, .int .i64 0, .str [], .int .i64 0, .int .i64 0, .str [], .int .i64 0, .int .i64 0, .str [], .int .i64 0, .int .i64 0, .str [], .int .i64 0, .int .i64 0, .str [], .int .i64 2, .int .i64 0, .str [], .int .i64 1, .int .i64 0, .str [], .int .i64 1, .int .i64 0, .str [], .int .i64 1, .int .i64 0, .str [], .int .i64 1, .int .i64 0, .str [], .int .i64 1, .int .i64 0, .str [], .int .i64 1, .int .i64 0, .str [], .int .i64 1, .int .i64 0, .str [], .int .i64 1, .int .i64 0, .str []]),
  (2023, .cells [.int .i64 (-1), .int .i64 (-1), .int .i64 (-1), .int .i64 0, .int .i64 (-1), .int .i64 1, .int .i64 (-1), .int .i64 (-1), .int .i64 (-1), .int .i64 (-1), .int .i64 (-1), .int .i64 (-1), .int .i64 0, .int .i64 (-1), .int .i64 (-1), .int .i64 (-1), .int .i64 (-1), .int .i64 (-1), .int .i64 1]),
  (2393, .cells [.str [120], .int .i64 1, .int .i64 0, .str [], .int .i64 0, .int .i64 3, .bool false, .bool false, .str [121], .int .i64 1, .int .i64 0, .str [], .int .i64 1, .int .i64 5, .bool false, .bool false]),
  (2760, .cells [.str [102], .int .i64 1, .int .i64 2, .int .i64 2, .int .i64 0, .str [], .slice 2393 0 2 2 8, .int .i64 2, .nilslice])]
theorem p6_66_run : pieceRun (runWith [(132, p1_132), (134, p2_134), (135, p3_135), (138, p4_138), (140, p5_140)]) 66 p6_66 = true := by kernel_rfl
theorem p6_66_ok : CallOk Tryz.prog (fun f' xs H => if f' = 66 then piecePrim p6_66 xs H else none) :=
  piece_ok (by
    intro x hx
    simp only [List.mem_cons, List.not_mem_nil, or_false] at hx
    rcases hx with rfl | rfl | rfl | rfl | rfl
    · exact p1_132_ok
    · exact p2_134_ok
    · exact p3_135_ok
    · exact p4_138_ok
    · exact p5_140_ok
    ) p6_66_run
noncomputable def p7_11 : Piece := Piece.mk [.str [112, 114, 111, 99, 32, 102, 40, 120, 58, 32, 105, 110, 116, 44, 32, 121, 58, 32, 105, 110, 116, 41, 58, 32, 98, 111, 111, 108, 32, 123, 32, 114, 101, 116, 117, 114, 110, 32, 120, 32, 43, 32, 50, 32, 42, 32, 51, 32, 62, 32, 49, 32, 42, 32, 121, 59, 32, 125]] 0
  []
  (.tuple [.agg [.int .i64 2, .str [], .int .i64 0, .int .i64 58, .slice 379 0 1 1 5, .slice 2021 0 19 19 3, .slice 2023 0 19 19 1, .slice 1856 0 0 0 2, .slice 2760 0 1 1 9], .bool true]) 2782 []
  [(198, .cells [.int .i64 9, .str [105, 110, 116], .int .i64 10, .int .i64 13, .nilslice]),
  (219, .cells [.int .i64 9, .str [105, 110, 116], .int .i64 18, .int .i64 21, .nilslice]),
  (223, .cells [.int .i64 7, .str [120], .int .i64 7, .int .i64 13, .slice 198 0 1 1 5, .int .i64 7, .str [121], .int .i64 15, .int .i64 21, .slice 219 0 1 1 5]),
  (302, .cells [.int .i64 24, .str [50], .int .i64 42, .int .i64 43, .nilslice, .int .i64 24, .str [51], .int .i64 46, .int .i64 47, .nilslice]),
  (308, .cells [.int .i64 20, .str [120], .int .i64 38, .int .i64 39, .nilslice, .int .i64 29, .str [42], .int .i64 42, .int .i64 47, .slice 302 0 2 2 5]),
  (344, .cells [.int .i64 24, .str [49], .int .i64 50, .int .i64 51, .nilslice, .int .i64 20, .str [121], .int .i64 54, .int .i64 55, .nilslice]),
  (353, .cells [.int .i64 29, .str [43], .int .i64 38, .int .i64 47, .slice 308 0 2 2 5, .int .i64 29, .str [42], .int .i64 50, .int .i64 55, .slice 344 0 2 2 5]),
  (364, .cells [.int .i64 29, .str [62], .int .i64 38, .int .i64 55, .slice 353 0 2 2 5]),
  (368, .cells [.int .i64 17, .str [], .int .i64 31, .int .i64 56, .slice 364 0 1 1 5]),
  (375, .cells [.int .i64 6, .str [], .int .i64 6, .int .i64 22, .slice 223 0 2 2 5, .int .i64 9, .str [98, 111, 111, 108], .int .i64 24, .int .i64 28, .nilslice, .int .i64 11, .str [], .int .i64 29, .int .i64 58, .slice 368 0 1 1 5]),
  (379, .cells [.int .i64 5, .str [102], .int .i64 0, .int .i64 58, .slice 375 0 3 3 5]),
  (1856, .cells []),
  (2021, .cells [.int .i64 0, .int .i64 0, .str [], .int .i64 0, .int .i64 0, .str [], .int .i64 0, .int .i64 0, .str [], .int .i64 0, .int .i64 0, .str [], .int .i64 0, .int .i64 0, .str [], .int .i64 0, .int .i64 0, .str [], .int .i64 0, .int .i64 0, .str [], .int .i64 0, .int .i64 0, .str [], .int .i64 0, .int .i64 0, .str [], .int .i64 0, .int .i64 0, .str [], .int .i64 2, .int .i64 0, .str [], .int .i64 1, .int .i64 0, .str [], .int .i64 1, .int .i64 0, .str [], .int .i64 1, .int .i64 0, .str [], .int .i64 1, .int .i64 0, .str [], .int .i64 1, .int .i64 0, .str [], .int .i64 1, .int .i64 0, .str [], .int .i64 1, .int .i64 0, .str [], .int .i64 1, .int .i64 0, .str []]),
  (2023, .cells [.int .i64 (-1), .int .i64 (-1), .int .i64 (-1), .int .i64 0, .int .i64 (-1), .int .i64 1, .int .i64 (-1), .int .i64 (-1), .int .i64 (-1), .int .i64 (-1), .int .i64 (-1), .int .i64 (-1), .int .i64 0, .int .i64 (-1), .int .i64 (-1), .int .i64 (-1), .int .i64 (-1), .int .i64 (-1), .int .i64 1]),
  (2393, .cells [.str [120], .int .i64 1, .int .i64 0, .str [], .int .i64 0, .int .i64 3, .bool false, .bool false, .str [121], .int .i64 1, .int .i64 0, .str [], .int .i64 1, .int .i64 5, .bool false, .bool false]),
  (2760, .cells [.str [102], .int .i64 1, .int .i64 2, .int .i64 2, .int .i64 0, .str [], .slice 2393 0 2 2 8, .int .i64 2, .nilslice])]
theorem p7_11_run : pieceRun (runWith [(65, p0_65), (66, p6_66)]) 11 p7_11 = true := by kernel_rfl
theorem p7_11_ok : CallOk Tryz.prog (fun f' xs H => if f' = 11 then piecePrim p7_11 xs H else none) :=
  piece_ok (by
    intro x hx
    simp only [List.mem_cons, List.not_mem_nil, or_false] at hx
    rcases hx with rfl | rfl
    · exact p0_65_ok
    · exact p6_66_ok
    ) p7_11_run
end Go.Am
end
section
set_option maxRecDepth 100000
namespace Go.Am
open Proofs
noncomputable def p10_12 : Piece := Piece.mk [.agg [.int .i64 2, .str [], .int .i64 0, .int .i64 58, .slice 379 0 1 1 5, .slice 2021 0 19 19 3, .slice 2023 0 19 19 1, .slice 1856 0 0 0 2, .slice 2760 0 1 1 9], .agg [.int .i64 4, .int .i64 0]] 5464
  [(198, .cells [.int .i64 9, .str [105, 110, 116], .int .i64 10, .int .i64 13, .nilslice]),
  (219, .cells [.int .i64 9, .str [105, 110, 116], .int .i64 18, .int .i64 21, .nilslice]),
  (223, .cells [.int .i64 7, .str [120], .int .i64 7, .int .i64 13, .slice 198 0 1 1 5, .int .i64 7, .str [121], .int .i64 15, .int .i64 21, .slice 219 0 1 1 5]),
  (302, .cells [.int .i64 24, .str [50], .int .i64 42, .int .i64 43, .nilslice, .int .i64 24, .str [51], .int .i64 46, .int .i64 47, .nilslice]),
  (308, .cells [.int .i64 20, .str [120], .int .i64 38, .int .i64 39, .nilslice, .int .i64 29, .str [42], .int .i64 42, .int .i64 47, .slice 302 0 2 2 5]),
  (344, .cells [.int .i64 24, .str [49], .int .i64 50, .int .i64 51, .nilslice, .int .i64 20, .str [121], .int .i64 54, .int .i64 55, .nilslice]),
  (353, .cells [.int .i64 29, .str [43], .int .i64 38, .int .i64 47, .slice 308 0 2 2 5, .int .i64 29, .str [42], .int .i64 50, .int .i64 55, .slice 344 0 2 2 5]),
  (364, .cells [.int .i64 29, .str [62], .int .i64 38, .int .i64 55, .slice 353 0 2 2 5]),
  (368, .cells [.int .i64 17, .str [], .int .i64 31, .int .i64 56, .slice 364 0 1 1 5]),
  (375, .cells [.int .i64 6, .str [], .int .i64 6, .int .i64 22, .slice 223 0 2 2 5, .int .i64 9, .str [98, 111, 111, 108], .int .i64 24, .int .i64 28, .nilslice, .int .i64 11, .str [], .int .i64 29, .int .i64 58, .slice 368 0 1 1 5]),
  (379, .cells [.int .i64 5, .str [102], .int .i64 0, .int .i64 58, .slice 375 0 3 3 5]),
  (1856, .cells []),
  (2021, .cells [.int .i64 0, .int .i64 0, .str [], .int .i64 0, .int .i64 0, .str [], .int .i64 0, .int .i64 0, .str [], .int .i64 0, .int .i64 0, .str [], .int .i64 0, .int .i64 0, .str [], .int .i64 0, .int .i64 0, .str [], .int .i64 0, .int .i64 0, .str [], .int .i64 0, .int .i64 0, .str [], .int .i64 0, .int .i64 0, .str [], .int .i64 0, .int .i64 0, .str [], .int .i64 2, .int .i64 0, .str [], .int .i64 1, .int .i64 0, .str [], .int .i64 1, .int .i64 0, .str [], .int .i64 1, .int .i64 0, .str [], .int .i64 1, .int .i64 0, .str [], .int .i64 1, .int .i64 0, .str [], .int .i64 1, .int .i64 0, .str [], .int .i64 1, .int .i64 0, .str [], .int .i64 1, .int .i64 0, .str []]),
  (2023, .cells [.int .i64 (-1), .int .i64 (-1), .int .i64 (-1), .int .i64 0, .int .i64 (-1), .int .i64 1, .int .i64 (-1), .int .i64 (-1), .int .i64 (-1), .int .i64 (-1), .int .i64 (-1), .int .i64 (-1), .int .i64 0, .int .i64 (-1), .int .i64 (-1), .int .i64 (-1), .int .i64 (-1), .int .i64 (-1), .int .i64 1]),
  (2393, .cells [.str [120], .int .i64 1, .int .i64 0, .str [], .int .i64 0, .int .i64 3, .bool false, .bool false, .str [121], .int .i64 1, .int .i64 0, .str [], .int .i64 1, .int .i64 5, .bool false, .bool false]),
  (2760, .cells [.str [102], .int .i64 1, .int .i64 2, .int .i64 2, .int .i64 0, .str [], .slice 2393 0 2 2 8, .int .i64 2, .nilslice])]
  (.tuple [.agg [.int .i64 2, .str [], .int .i64 0, .int .i64 0, .slice 5818 0 1 1 5], .int .i64 0]) 6950 []
  [(5499, .cells [.int .i64 9, .str [105, 110, 116], .int .i64 0, .int .i64 0, .nilslice]),
  (5536, .cells [.int .i64 9, .str [105, 110, 116], .int .i64 0, .int .i64 0, .nilslice]),
  (5552, .cells [.int .i64 7, .str [120], .int .i64 0, .int .i64 0, .slice 5499 0 1 1 5, .int .i64 7, .str [121], .int .i64 0, .int .i64 0, .slice 5536 0 1 1 5]),
  (5789, .cells [.int .i64 6, .str [], .int .i64 0, .int .i64 0, .slice 5552 0 2 2 5, .int .i64 9, .str [98, 111, 111, 108], .int .i64 0, .int .i64 0, .nilslice, .int .i64 11, .str [], .int .i64 0, .int .i64 0, .slice 6949 0 1 1 5]),
  (5818, .cells [.int .i64 5, .str [102], .int .i64 0, .int .i64 0, .slice 5789 0 3 3 5]),
  (6353, .cells [.int .i64 20, .str [120], .int .i64 0, .int .i64 0, .nilslice, .int .i64 24, .str [54], .int .i64 0, .int .i64 0, .nilslice]),
  (6880, .cells [.int .i64 29, .str [43], .int .i64 0, .int .i64 0, .slice 6353 0 2 2 5, .int .i64 20, .str [121], .int .i64 0, .int .i64 0, .nilslice]),
  (6946, .cells [.int .i64 29, .str [62], .int .i64 0, .int .i64 0, .slice 6880 0 2 2 5]),
  (6949, .cells [.int .i64 17, .str [], .int .i64 0, .int .i64 0, .slice 6946 0 1 1 5])]
theorem p10_12_run : pieceRun (runWith []) 12 p10_12 = true := by kernel_rfl
theorem p10_12_ok : CallOk Tryz.prog (fun f' xs H => if f' = 12 then piecePrim p10_12 xs H else none) :=
  piece_ok (by
    intro x hx
    simp only [List.mem_cons, List.not_mem_nil, or_false] at hx
    ) p10_12_run
noncomputable def p11_88 : Piece := Piece.mk [.agg [.int .i64 2, .str [], .int .i64 0, .int .i64 0, .slice 5818 0 1 1 5]] 7226
  [(5499, .cells [.int .i64 9, .str [105, 110, 116], .int .i64 0, .int .i64 0, .nilslice]),
  (5536, .cells [.int .i64 9, .str [105, 110, 116], .int .i64 0, .int .i64 0, .nilslice]),
  (5552, .cells [.int .i64 7, .str [120], .int .i64 0, .int .i64 0, .slice 5499 0 1 1 5, .int .i64 7, .str [121], .int .i64 0, .int .i64 0, .slice 5536 0 1 1 5]),
  (5789, .cells [.int .i64 6, .str [], .int .i64 0, .int .i64 0, .slice 5552 0 2 2 5, .int .i64 9, .str [98, 111, 111, 108], .int .i64 0, .int .i64 0, .nilslice, .int .i64 11, .str [], .int .i64 0, .int .i64 0, .slice 6949 0 1 1 5]),
  (5818, .cells [.int .i64 5, .str [102], .int .i64 0, .int .i64 0, .slice 5789 0 3 3 5]),
  (6353, .cells [.int .i64 20, .str [120], .int .i64 0, .int .i64 0, .nilslice, .int .i64 24, .str [54], .int .i64 0, .int .i64 0, .nilslice]),
  (6880, .cells [.int .i64 29, .str [43], .int .i64 0, .int .i64 0, .slice 6353 0 2 2 5, .int .i64 20, .str [121], .int .i64 0, .int .i64 0, .nilslice]),
  (6946, .cells [.int .i64 29, .str [62], .int .i64 0, .int .i64 0, .slice 6880 0 2 2 5]),
  (6949, .cells [.int .i64 17, .str [], .int .i64 0, .int .i64 0, .slice 6946 0 1 1 5])]
  (.tuple [.agg [.slice 7562 0 3 3 4, .slice 7461 0 15 15 1], .nilslice, .int .i64 0]) 7649 []
  [(7461, .cells [.int .i64 (-1), .int .i64 0, .int .i64 (-1), .int .i64 1, .int .i64 (-1), .int .i64 2, .int .i64 (-1), .int .i64 (-1), .int .i64 (-1), .int .i64 (-1), .int .i64 (-1), .int .i64 (-1), .int .i64 1, .int .i64 (-1), .int .i64 2]),
  (7562, .cells [.int .i64 2, .str [102], .int .i64 1, .int .i64 (-1), .int .i64 3, .str [120], .int .i64 3, .int .i64 1, .int .i64 3, .str [121], .int .i64 5, .int .i64 1])]
theorem p11_88_run : pieceRun (runWith []) 88 p11_88 = true := by kernel_rfl
theorem p11_88_ok : CallOk Tryz.prog (fun f' xs H => if f' = 88 then piecePrim p11_88 xs H else none) :=
  piece_ok (by
    intro x hx
    simp only [List.mem_cons, List.not_mem_nil, or_false] at hx
    ) p11_88_run
noncomputable def p13_91 : Piece := Piece.mk [.int .i64 15, .slice 8641 0 13 13 8] 8642
  [(8641, .cells [.int .i64 0, .int .i64 1, .int .i64 0, .int .i64 2, .int .i64 0, .str [], .int .i64 0, .int .i64 0, .int .i64 0, .int .i64 3, .int .i64 0, .int .i64 1, .int .i64 0, .str [], .int .i64 0, .int .i64 0, .int .i64 0, .int .i64 5, .int .i64 0, .int .i64 1, .int .i64 0, .str [], .int .i64 0, .int .i64 0, .int .i64 1, .int .i64 10, .int .i64 1, .int .i64 0, .int .i64 0, .str [], .int .i64 0, .int .i64 0, .int .i64 0, .int .i64 11, .int .i64 0, .int .i64 1, .int .i64 0, .str [], .int .i64 0, .int .i64 0, .int .i64 0, .int .i64 14, .int .i64 0, .int .i64 1, .int .i64 0, .str [], .int .i64 0, .int .i64 0, .int .i64 0, .int .i64 10, .int .i64 0, .int .i64 2, .int .i64 0, .str [], .int .i64 0, .int .i64 0, .int .i64 0, .int .i64 12, .int .i64 0, .int .i64 1, .int .i64 0, .str [], .int .i64 0, .int .i64 0, .int .i64 0, .int .i64 13, .int .i64 0, .int .i64 1, .int .i64 0, .str [], .int .i64 0, .int .i64 0, .int .i64 0, .int .i64 11, .int .i64 0, .int .i64 1, .int .i64 0, .str [], .int .i64 0, .int .i64 0, .int .i64 1, .int .i64 12, .int .i64 3, .int .i64 0, .int .i64 0, .str [], .int .i64 0, .int .i64 0, .int .i64 0, .int .i64 13, .int .i64 0, .int .i64 1, .int .i64 0, .str [], .int .i64 0, .int .i64 0, .int .i64 1, .int .i64 14, .int .i64 5, .int .i64 0, .int .i64 0, .str [], .int .i64 0, .int .i64 0])]
  (.tuple [.slice 8701 0 15 15 3, .nilslice, .int .i64 0]) 8945 []
  [(8701, .cells [.int .i64 0, .int .i64 0, .str [], .int .i64 2, .int .i64 0, .str [], .int .i64 0, .int .i64 0, .str [], .int .i64 1, .int .i64 0, .str [], .int .i64 0, .int .i64 0, .str [], .int .i64 1, .int .i64 0, .str [], .int .i64 0, .int .i64 0, .str [], .int .i64 0, .int .i64 0, .str [], .int .i64 0, .int .i64 0, .str [], .int .i64 0, .int .i64 0, .str [], .int .i64 2, .int .i64 0, .str [], .int .i64 1, .int .i64 0, .str [], .int .i64 1, .int .i64 0, .str [], .int .i64 1, .int .i64 0, .str [], .int .i64 1, .int .i64 0, .str []])]
theorem p13_91_run : pieceRun (runWith []) 91 p13_91 = true := by kernel_rfl
theorem p13_91_ok : CallOk Tryz.prog (fun f' xs H => if f' = 91 then piecePrim p13_91 xs H else none) :=
  piece_ok (by
    intro x hx
    simp only [List.mem_cons, List.not_mem_nil, or_false] at hx
    ) p13_91_run
end Go.Am
end
