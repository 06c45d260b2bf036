/- A part of Awake's run, checked. -/
import Derived.Test.YtdnclnacneakbaaGreatDoorL0
set_option linter.unusedVariables false
set_option linter.unusedSimpArgs false
set_option linter.unusedSectionVars false
set_option maxRecDepth 100000
namespace Go.Am
open Proofs
noncomputable def p1_132 : Piece := Piece.mk [.agg [.int .i64 2, .str [], .int .i64 0, .int .i64 58, .slice 379 0 1 1 5]] 527
  [(198, .cells [.int .i64 9, .str [105, 110, 116], .int .i64 10, .int .i64 13, .nilslice]),
  (219, .cells [.int .i64 9, .str [105, 110, 116], .int .i64 18, .int .i64 21, .nilslice]),
  (223, .cells [.int .i64 7, .str [120], .int .i64 7, .int .i64 13, .slice 198 0 1 1 5, .int .i64 7, .str [121], .int .i64 15, .int .i64 21, .slice 219 0 1 1 5]),
  (302, .cells [.int .i64 24, .str [50], .int .i64 42, .int .i64 43, .nilslice, .int .i64 24, .str [51], .int .i64 46, .int .i64 47, .nilslice]),
  (308, .cells [.int .i64 20, .str [120], .int .i64 38, .int .i64 39, .nilslice, .int .i64 29, .str [42], .int .i64 42, .int .i64 47, .slice 302 0 2 2 5]),
  (344, .cells [.int .i64 24, .str [49], .int .i64 50, .int .i64 51, .nilslice, .int .i64 20, .str [121], .int .i64 54, .int .i64 55, .nilslice]),
  (353, .cells [.int .i64 29, .str [43], .int .i64 38, .int .i64 47, .slice 308 0 2 2 5, .int .i64 29, .str [42], .int .i64 50, .int .i64 55, .slice 344 0 2 2 5]),
  (364, .cells [.int .i64 29, .str [62], .int .i64 38, .int .i64 55, .slice 353 0 2 2 5]),
  (368, .cells [.int .i64 17, .str [], .int .i64 31, .int .i64 56, .slice 364 0 1 1 5]),
  (375, .cells [.int .i64 6, .str [], .int .i64 6, .int .i64 22, .slice 223 0 2 2 5, .int .i64 9, .str [98, 111, 111, 108], .int .i64 24, .int .i64 28, .nilslice, .int .i64 11, .str [], .int .i64 29, .int .i64 58, .slice 368 0 1 1 5]),
  (379, .cells [.int .i64 5, .str [102], .int .i64 0, .int .i64 58, .slice 375 0 3 3 5])]
  (.tuple [.agg [.slice 722 0 3 3 4, .slice 700 0 19 19 1], .nilslice, .int .i64 0]) 740 []
  [(700, .cells [.int .i64 (-1), .int .i64 0, .int .i64 (-1), .int .i64 1, .int .i64 (-1), .int .i64 2, .int .i64 (-1), .int .i64 (-1), .int .i64 (-1), .int .i64 (-1), .int .i64 (-1), .int .i64 (-1), .int .i64 1, .int .i64 (-1), .int .i64 (-1), .int .i64 (-1), .int .i64 (-1), .int .i64 (-1), .int .i64 2]),
  (722, .cells [.int .i64 2, .str [102], .int .i64 1, .int .i64 (-1), .int .i64 3, .str [120], .int .i64 3, .int .i64 1, .int .i64 3, .str [121], .int .i64 5, .int .i64 1])]
theorem p1_132_run : pieceRun (runWith []) 132 p1_132 = true := by kernel_rfl
theorem p1_132_ok : CallOk Tryz.prog (fun f' xs H => if f' = 132 then piecePrim p1_132 xs H else none) :=
  piece_ok (by
    intro x hx
    simp only [List.mem_cons, List.not_mem_nil, or_false] at hx
    ) p1_132_run
noncomputable def p4_138 : Piece := Piece.mk [.ptr 817 0, .int .i64 1] 1476
  [(198, .cells [.int .i64 9, .str [105, 110, 116], .int .i64 10, .int .i64 13, .nilslice]),
  (219, .cells [.int .i64 9, .str [105, 110, 116], .int .i64 18, .int .i64 21, .nilslice]),
  (223, .cells [.int .i64 7, .str [120], .int .i64 7, .int .i64 13, .slice 198 0 1 1 5, .int .i64 7, .str [121], .int .i64 15, .int .i64 21, .slice 219 0 1 1 5]),
  (302, .cells [.int .i64 24, .str [50], .int .i64 42, .int .i64 43, .nilslice, .int .i64 24, .str [51], .int .i64 46, .int .i64 47, .nilslice]),
  (308, .cells [.int .i64 20, .str [120], .int .i64 38, .int .i64 39, .nilslice, .int .i64 29, .str [42], .int .i64 42, .int .i64 47, .slice 302 0 2 2 5]),
  (344, .cells [.int .i64 24, .str [49], .int .i64 50, .int .i64 51, .nilslice, .int .i64 20, .str [121], .int .i64 54, .int .i64 55, .nilslice]),
  (353, .cells [.int .i64 29, .str [43], .int .i64 38, .int .i64 47, .slice 308 0 2 2 5, .int .i64 29, .str [42], .int .i64 50, .int .i64 55, .slice 344 0 2 2 5]),
  (364, .cells [.int .i64 29, .str [62], .int .i64 38, .int .i64 55, .slice 353 0 2 2 5]),
  (368, .cells [.int .i64 17, .str [], .int .i64 31, .int .i64 56, .slice 364 0 1 1 5]),
  (375, .cells [.int .i64 6, .str [], .int .i64 6, .int .i64 22, .slice 223 0 2 2 5, .int .i64 9, .str [98, 111, 111, 108], .int .i64 24, .int .i64 28, .nilslice, .int .i64 11, .str [], .int .i64 29, .int .i64 58, .slice 368 0 1 1 5]),
  (379, .cells [.int .i64 5, .str [102], .int .i64 0, .int .i64 58, .slice 375 0 3 3 5]),
  (700, .cells [.int .i64 (-1), .int .i64 0, .int .i64 (-1), .int .i64 1, .int .i64 (-1), .int .i64 2, .int .i64 (-1), .int .i64 (-1), .int .i64 (-1), .int .i64 (-1), .int .i64 (-1), .int .i64 (-1), .int .i64 1, .int .i64 (-1), .int .i64 (-1), .int .i64 (-1), .int .i64 (-1), .int .i64 (-1), .int .i64 2]),
  (722, .cells [.int .i64 2, .str [102], .int .i64 1, .int .i64 (-1), .int .i64 3, .str [120], .int .i64 3, .int .i64 1, .int .i64 3, .str [121], .int .i64 5, .int .i64 1]),
  (815, .cells [.int .i64 2, .str [], .int .i64 0, .int .i64 58, .slice 379 0 1 1 5, .int .i64 5, .str [102], .int .i64 0, .int .i64 58, .slice 375 0 3 3 5, .int .i64 6, .str [], .int .i64 6, .int .i64 22, .slice 223 0 2 2 5, .int .i64 7, .str [120], .int .i64 7, .int .i64 13, .slice 198 0 1 1 5, .int .i64 9, .str [105, 110, 116], .int .i64 10, .int .i64 13, .nilslice, .int .i64 7, .str [121], .int .i64 15, .int .i64 21, .slice 219 0 1 1 5, .int .i64 9, .str [105, 110, 116], .int .i64 18, .int .i64 21, .nilslice, .int .i64 9, .str [98, 111, 111, 108], .int .i64 24, .int .i64 28, .nilslice, .int .i64 11, .str [], .int .i64 29, .int .i64 58, .slice 368 0 1 1 5, .int .i64 17, .str [], .int .i64 31, .int .i64 56, .slice 364 0 1 1 5, .int .i64 29, .str [62], .int .i64 38, .int .i64 55, .slice 353 0 2 2 5, .int .i64 29, .str [43], .int .i64 38, .int .i64 47, .slice 308 0 2 2 5, .int .i64 20, .str [120], .int .i64 38, .int .i64 39, .nilslice, .int .i64 29, .str [42], .int .i64 42, .int .i64 47, .slice 302 0 2 2 5, .int .i64 24, .str [50], .int .i64 42, .int .i64 43, .nilslice, .int .i64 24, .str [51], .int .i64 46, .int .i64 47, .nilslice, .int .i64 29, .str [42], .int .i64 50, .int .i64 55, .slice 344 0 2 2 5, .int .i64 24, .str [49], .int .i64 50, .int .i64 51, .nilslice, .int .i64 20, .str [121], .int .i64 54, .int .i64 55, .nilslice]),
  (816, .cells []),
  (817, .cells [.slice 815 0 19 19 5, .slice 722 0 3 3 4, .slice 700 0 19 19 1, .nilslice, .slice 816 0 0 0 5])]
  (.tuple []) 1836 []
  []
theorem p4_138_run : pieceRun (runWith []) 138 p4_138 = true := by kernel_rfl
theorem p4_138_ok : CallOk Tryz.prog (fun f' xs H => if f' = 138 then piecePrim p4_138 xs H else none) :=
  piece_ok (by
    intro x hx
    simp only [List.mem_cons, List.not_mem_nil, or_false] at hx
    ) p4_138_run
noncomputable def p8_12 : Piece := Piece.mk [.agg [.int .i64 2, .str [], .int .i64 0, .int .i64 58, .slice 379 0 1 1 5, .slice 2021 0 19 19 3, .slice 2023 0 19 19 1, .slice 1856 0 0 0 2, .slice 2760 0 1 1 9], .agg [.int .i64 4, .int .i64 0]] 2784
  [(198, .cells [.int .i64 9, .str [105, 110, 116], .int .i64 10, .int .i64 13, .nilslice]),
  (219, .cells [.int .i64 9, .str [105, 110, 116], .int .i64 18, .int .i64 21, .nilslice]),
  (223, .cells [.int .i64 7, .str [120], .int .i64 7, .int .i64 13, .slice 198 0 1 1 5, .int .i64 7, .str [121], .int .i64 15, .int .i64 21, .slice 219 0 1 1 5]),
  (302, .cells [.int .i64 24, .str [50], .int .i64 42, .int .i64 43, .nilslice, .int .i64 24, .str [51], .int .i64 46, .int .i64 47, .nilslice]),
  (308, .cells [.int .i64 20, .str [120], .int .i64 38, .int .i64 39, .nilslice, .int .i64 29, .str [42], .int .i64 42, .int .i64 47, .slice 302 0 2 2 5]),
  (344, .cells [.int .i64 24, .str [49], .int .i64 50, .int .i64 51, .nilslice, .int .i64 20, .str [121], .int .i64 54, .int .i64 55, .nilslice]),
  (353, .cells [.int .i64 29, .str [43], .int .i64 38, .int .i64 47, .slice 308 0 2 2 5, .int .i64 29, .str [42], .int .i64 50, .int .i64 55, .slice 344 0 2 2 5]),
  (364, .cells [.int .i64 29, .str [62], .int .i64 38, .int .i64 55, .slice 353 0 2 2 5]),
  (368, .cells [.int .i64 17, .str [], .int .i64 31, .int .i64 56, .slice 364 0 1 1 5]),
  (375, .cells [.int .i64 6, .str [], .int .i64 6, .int .i64 22, .slice 223 0 2 2 5, .int .i64 9, .str [98, 111, 111, 108], .int .i64 24, .int .i64 28, .nilslice, .int .i64 11, .str [], .int .i64 29, .int .i64 58, .slice 368 0 1 1 5]),
  (379, .cells [.int .i64 5, .str [102], .int .i64 0, .int .i64 58, .slice 375 0 3 3 5]),
  (1856, .cells []),
  (2021, .cells [.int .i64 0, .int .i64 0, .str [], .int .i64 0, .int .i64 0, .str [], .int .i64 0, .int .i64 0, .str [], .int .i64 0, .int .i64 0, .str [], .int .i64 0, .int .i64 0, .str [], .int .i64 0, .int .i64 0, .str [], .int .i64 0, .int .i64 0, .str [], .int .i64 0, .int .i64 0, .str [], .int .i64 0, .int .i64 0, .str [], .int .i64 0, .int .i64 0, .str [], .int .i64 2, .int .i64 0, .str [], .int .i64 1, .int .i64 0, .str [], .int .i64 1, .int .i64 0, .str [], .int .i64 1, .int .i64 0, .str [], .int .i64 1, .int .i64 0, .str [], .int .i64 1, .int .i64 0, .str [], .int .i64 1, .int .i64 0, .str [], .int .i64 1, .int .i64 0, .str [], .int .i64 1, .int .i64 0, .str []]),
  (2023, .cells [.int .i64 (-1), .int .i64 (-1), .int .i64 (-1), .int .i64 0, .int .i64 (-1), .int .i64 1, .int .i64 (-1), .int .i64 (-1), .int .i64 (-1), .int .i64 (-1), .int .i64 (-1), .int .i64 (-1), .int .i64 0, .int .i64 (-1), .int .i64 (-1), .int .i64 (-1), .int .i64 (-1), .int .i64 (-1), .int .i64 1]),
  (2393, .cells [.str [120], .int .i64 1, .int .i64 0, .str [], .int .i64 0, .int .i64 3, .bool false, .bool false, .str [121], .int .i64 1, .int .i64 0, .str [], .int .i64 1, .int .i64 5, .bool false, .bool false]),
  (2760, .cells [.str [102], .int .i64 1, .int .i64 2, .int .i64 2, .int .i64 0, .str [], .slice 2393 0 2 2 8, .int .i64 2, .nilslice])]
  (.tuple [.agg [.int .i64 2, .str [], .int .i64 0, .int .i64 0, .slice 3138 0 1 1 5], .int .i64 0]) 4270 []
  [(2819, .cells [.int .i64 9, .str [105, 110, 116], .int .i64 0, .int .i64 0, .nilslice]),
  (2856, .cells [.int .i64 9, .str [105, 110, 116], .int .i64 0, .int .i64 0, .nilslice]),
  (2872, .cells [.int .i64 7, .str [120], .int .i64 0, .int .i64 0, .slice 2819 0 1 1 5, .int .i64 7, .str [121], .int .i64 0, .int .i64 0, .slice 2856 0 1 1 5]),
  (3109, .cells [.int .i64 6, .str [], .int .i64 0, .int .i64 0, .slice 2872 0 2 2 5, .int .i64 9, .str [98, 111, 111, 108], .int .i64 0, .int .i64 0, .nilslice, .int .i64 11, .str [], .int .i64 0, .int .i64 0, .slice 4269 0 1 1 5]),
  (3138, .cells [.int .i64 5, .str [102], .int .i64 0, .int .i64 0, .slice 3109 0 3 3 5]),
  (3673, .cells [.int .i64 20, .str [120], .int .i64 0, .int .i64 0, .nilslice, .int .i64 24, .str [54], .int .i64 0, .int .i64 0, .nilslice]),
  (4200, .cells [.int .i64 29, .str [43], .int .i64 0, .int .i64 0, .slice 3673 0 2 2 5, .int .i64 20, .str [121], .int .i64 0, .int .i64 0, .nilslice]),
  (4266, .cells [.int .i64 29, .str [62], .int .i64 0, .int .i64 0, .slice 4200 0 2 2 5]),
  (4269, .cells [.int .i64 17, .str [], .int .i64 0, .int .i64 0, .slice 4266 0 1 1 5])]
theorem p8_12_run : pieceRun (runWith []) 12 p8_12 = true := by kernel_rfl
theorem p8_12_ok : CallOk Tryz.prog (fun f' xs H => if f' = 12 then piecePrim p8_12 xs H else none) :=
  piece_ok (by
    intro x hx
    simp only [List.mem_cons, List.not_mem_nil, or_false] at hx
    ) p8_12_run
end Go.Am
