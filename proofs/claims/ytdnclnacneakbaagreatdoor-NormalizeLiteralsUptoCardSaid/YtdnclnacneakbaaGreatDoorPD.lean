/- A part of Awake's run, checked. -/
import Derived.Test.YtdnclnacneakbaaGreatDoorL0
set_option linter.unusedVariables false
set_option linter.unusedSimpArgs false
set_option linter.unusedSectionVars false
section
set_option maxRecDepth 100000
namespace Go.Am
open Proofs
noncomputable def p3_135 : Piece := Piece.mk [.int .i64 19, .slice 1312 0 21 21 8] 1313
  [(1312, .cells [.int .i64 0, .int .i64 1, .int .i64 0, .int .i64 2, .int .i64 0, .str [], .int .i64 24, .int .i64 28, .int .i64 0, .int .i64 3, .int .i64 0, .int .i64 1, .int .i64 0, .str [], .int .i64 10, .int .i64 13, .int .i64 0, .int .i64 5, .int .i64 0, .int .i64 1, .int .i64 0, .str [], .int .i64 18, .int .i64 21, .int .i64 1, .int .i64 10, .int .i64 1, .int .i64 0, .int .i64 0, .str [], .int .i64 31, .int .i64 56, .int .i64 0, .int .i64 11, .int .i64 0, .int .i64 1, .int .i64 0, .str [], .int .i64 38, .int .i64 47, .int .i64 0, .int .i64 16, .int .i64 0, .int .i64 1, .int .i64 0, .str [], .int .i64 50, .int .i64 55, .int .i64 0, .int .i64 10, .int .i64 0, .int .i64 2, .int .i64 0, .str [], .int .i64 38, .int .i64 55, .int .i64 0, .int .i64 12, .int .i64 0, .int .i64 1, .int .i64 0, .str [], .int .i64 38, .int .i64 39, .int .i64 0, .int .i64 13, .int .i64 0, .int .i64 1, .int .i64 0, .str [], .int .i64 42, .int .i64 47, .int .i64 0, .int .i64 11, .int .i64 0, .int .i64 1, .int .i64 0, .str [], .int .i64 38, .int .i64 47, .int .i64 1, .int .i64 12, .int .i64 3, .int .i64 0, .int .i64 0, .str [], .int .i64 38, .int .i64 39, .int .i64 0, .int .i64 14, .int .i64 0, .int .i64 1, .int .i64 0, .str [], .int .i64 42, .int .i64 43, .int .i64 0, .int .i64 15, .int .i64 0, .int .i64 1, .int .i64 0, .str [], .int .i64 46, .int .i64 47, .int .i64 0, .int .i64 13, .int .i64 0, .int .i64 1, .int .i64 0, .str [], .int .i64 42, .int .i64 47, .int .i64 0, .int .i64 14, .int .i64 0, .int .i64 1, .int .i64 0, .str [], .int .i64 42, .int .i64 43, .int .i64 0, .int .i64 15, .int .i64 0, .int .i64 1, .int .i64 0, .str [], .int .i64 46, .int .i64 47, .int .i64 0, .int .i64 17, .int .i64 0, .int .i64 1, .int .i64 0, .str [], .int .i64 50, .int .i64 51, .int .i64 0, .int .i64 18, .int .i64 0, .int .i64 1, .int .i64 0, .str [], .int .i64 54, .int .i64 55, .int .i64 0, .int .i64 16, .int .i64 0, .int .i64 1, .int .i64 0, .str [], .int .i64 50, .int .i64 55, .int .i64 0, .int .i64 17, .int .i64 0, .int .i64 1, .int .i64 0, .str [], .int .i64 50, .int .i64 51, .int .i64 1, .int .i64 18, .int .i64 5, .int .i64 0, .int .i64 0, .str [], .int .i64 54, .int .i64 55])]
  (.tuple [.slice 1352 0 19 19 3, .slice 1353 0 0 0 1, .int .i64 0]) 1475 []
  [(1352, .cells [.int .i64 0, .int .i64 0, .str [], .int .i64 2, .int .i64 0, .str [], .int .i64 0, .int .i64 0, .str [], .int .i64 1, .int .i64 0, .str [], .int .i64 0, .int .i64 0, .str [], .int .i64 1, .int .i64 0, .str [], .int .i64 0, .int .i64 0, .str [], .int .i64 0, .int .i64 0, .str [], .int .i64 0, .int .i64 0, .str [], .int .i64 0, .int .i64 0, .str [], .int .i64 2, .int .i64 0, .str [], .int .i64 1, .int .i64 0, .str [], .int .i64 1, .int .i64 0, .str [], .int .i64 1, .int .i64 0, .str [], .int .i64 1, .int .i64 0, .str [], .int .i64 1, .int .i64 0, .str [], .int .i64 1, .int .i64 0, .str [], .int .i64 1, .int .i64 0, .str [], .int .i64 1, .int .i64 0, .str []]),
  (1353, .cells [])]
theorem p3_135_run : pieceRun (runWith []) 135 p3_135 = true := by kernel_rfl
theorem p3_135_ok : CallOk Tryz.prog (fun f' xs H => if f' = 135 then piecePrim p3_135 xs H else none) :=
  piece_ok (by
    intro x hx
    simp only [List.mem_cons, List.not_mem_nil, or_false] at hx
    ) p3_135_run
end Go.Am
end
section
set_option maxRecDepth 100000
namespace Go.Am
open Proofs
noncomputable def p5_140 : Piece := Piece.mk [.ptr 817 0, .agg [.int .i64 2, .str [], .int .i64 0, .int .i64 58, .slice 379 0 1 1 5], .slice 1352 0 19 19 3] 1853
  [(198, .cells [.int .i64 9, .str [105, 110, 116], .int .i64 10, .int .i64 13, .nilslice]),
  (219, .cells [.int .i64 9, .str [105, 110, 116], .int .i64 18, .int .i64 21, .nilslice]),
  (223, .cells [.int .i64 7, .str [120], .int .i64 7, .int .i64 13, .slice 198 0 1 1 5, .int .i64 7, .str [121], .int .i64 15, .int .i64 21, .slice 219 0 1 1 5]),
  (302, .cells [.int .i64 24, .str [50], .int .i64 42, .int .i64 43, .nilslice, .int .i64 24, .str [51], .int .i64 46, .int .i64 47, .nilslice]),
  (308, .cells [.int .i64 20, .str [120], .int .i64 38, .int .i64 39, .nilslice, .int .i64 29, .str [42], .int .i64 42, .int .i64 47, .slice 302 0 2 2 5]),
  (344, .cells [.int .i64 24, .str [49], .int .i64 50, .int .i64 51, .nilslice, .int .i64 20, .str [121], .int .i64 54, .int .i64 55, .nilslice]),
  (353, .cells [.int .i64 29, .str [43], .int .i64 38, .int .i64 47, .slice 308 0 2 2 5, .int .i64 29, .str [42], .int .i64 50, .int .i64 55, .slice 344 0 2 2 5]),
  (364, .cells [.int .i64 29, .str [62], .int .i64 38, .int .i64 55, .slice 353 0 2 2 5]),
  (368, .cells [.int .i64 17, .str [], .int .i64 31, .int .i64 56, .slice 364 0 1 1 5]),
  (375, .cells [.int .i64 6, .str [], .int .i64 6, .int .i64 22, .slice 223 0 2 2 5, .int .i64 9, .str [98, 111, 111, 108], .int .i64 24, .int .i64 28, .nilslice, .int .i64 11, .str [], .int .i64 29, .int .i64 58, .slice 368 0 1 1 5]),
  (379, .cells [.int .i64 5, .str [102], .int .i64 0, .int .i64 58, .slice 375 0 3 3 5]),
  (700, .cells [.int .i64 (-1), .int .i64 0, .int .i64 (-1), .int .i64 1, .int .i64 (-1), .int .i64 2, .int .i64 (-1), .int .i64 (-1), .int .i64 (-1), .int .i64 (-1), .int .i64 (-1), .int .i64 (-1), .int .i64 1, .int .i64 (-1), .int .i64 (-1), .int .i64 (-1), .int .i64 (-1), .int .i64 (-1), .int .i64 2]),
  (722, .cells [.int .i64 2, .str [102], .int .i64 1, .int .i64 (-1), .int .i64 3, .str [120], .int .i64 3, .int .i64 1, .int .i64 3, .str [121], .int .i64 5, .int .i64 1]),
  (815, .cells [.int .i64 2, .str [], .int .i64 0, .int .i64 58, .slice 379 0 1 1 5, .int .i64 5, .str [102], .int .i64 0, .int .i64 58, .slice 375 0 3 3 5, .int .i64 6, .str [], .int .i64 6, .int .i64 22, .slice 223 0 2 2 5, .int .i64 7, .str [120], .int .i64 7, .int .i64 13, .slice 198 0 1 1 5, .int .i64 9, .str [105, 110, 116], .int .i64 10, .int .i64 13, .nilslice, .int .i64 7, .str [121], .int .i64 15, .int .i64 21, .slice 219 0 1 1 5, .int .i64 9, .str [105, 110, 116], .int .i64 18, .int .i64 21, .nilslice, .int .i64 9, .str [98, 111, 111, 108], .int .i64 24, .int .i64 28, .nilslice, .int .i64 11, .str [], .int .i64 29, .int .i64 58, .slice 368 0 1 1 5, .int .i64 17, .str [], .int .i64 31, .int .i64 56, .slice 364 0 1 1 5, .int .i64 29, .str [62], .int .i64 38, .int .i64 55, .slice 353 0 2 2 5, .int .i64 29, .str [43], .int .i64 38, .int .i64 47, .slice 308 0 2 2 5, .int .i64 20, .str [120], .int .i64 38, .int .i64 39, .nilslice, .int .i64 29, .str [42], .int .i64 42, .int .i64 47, .slice 302 0 2 2 5, .int .i64 24, .str [50], .int .i64 42, .int .i64 43, .nilslice, .int .i64 24, .str [51], .int .i64 46, .int .i64 47, .nilslice, .int .i64 29, .str [42], .int .i64 50, .int .i64 55, .slice 344 0 2 2 5, .int .i64 24, .str [49], .int .i64 50, .int .i64 51, .nilslice, .int .i64 20, .str [121], .int .i64 54, .int .i64 55, .nilslice]),
  (816, .cells []),
  (817, .cells [.slice 815 0 19 19 5, .slice 722 0 3 3 4, .slice 700 0 19 19 1, .nilslice, .slice 816 0 0 0 5]),
  (1352, .cells [.int .i64 0, .int .i64 0, .str [], .int .i64 2, .int .i64 0, .str [], .int .i64 0, .int .i64 0, .str [], .int .i64 1, .int .i64 0, .str [], .int .i64 0, .int .i64 0, .str [], .int .i64 1, .int .i64 0, .str [], .int .i64 0, .int .i64 0, .str [], .int .i64 0, .int .i64 0, .str [], .int .i64 0, .int .i64 0, .str [], .int .i64 0, .int .i64 0, .str [], .int .i64 2, .int .i64 0, .str [], .int .i64 1, .int .i64 0, .str [], .int .i64 1, .int .i64 0, .str [], .int .i64 1, .int .i64 0, .str [], .int .i64 1, .int .i64 0, .str [], .int .i64 1, .int .i64 0, .str [], .int .i64 1, .int .i64 0, .str [], .int .i64 1, .int .i64 0, .str [], .int .i64 1, .int .i64 0, .str []])]
  (.agg [.int .i64 2, .str [], .int .i64 0, .int .i64 58, .slice 379 0 1 1 5, .slice 2021 0 19 19 3, .slice 2023 0 19 19 1, .slice 1856 0 0 0 2, .slice 2760 0 1 1 9]) 2761 []
  [(1856, .cells []),
  (2021, .cells [.int .i64 0, .int .i64 0, .str [], .int .i64 0, .int .i64 0, .str [], .int .i64 0, .int .i64 0, .str [], .int .i64 0, .int .i64 0, .str [], .int .i64 0, .int .i64 0, .str [], .int .i64 0, .int .i64 0, .str [], .int .i64 0, .int .i64 0, .str [], .int .i64 0, .int .i64 0, .str [], .int .i64 0, .int .i64 0, .str [], .int .i64 0, .int .i64 0, .str [], .int .i64 2, .int .i64 0, .str [], .int .i64 1, .int .i64 0, .str [], .int .i64 1, .int .i64 0, .str [], .int .i64 1, .int .i64 0, .str [], .int .i64 1, .int .i64 0, .str [], .int .i64 1, .int .i64 0, .str [], .int .i64 1, .int .i64 0, .str [], .int .i64 1, .int .i64 0, .str [], .int .i64 1, .int .i64 0, .str []]),
  (2023, .cells [.int .i64 (-1), .int .i64 (-1), .int .i64 (-1), .int .i64 0, .int .i64 (-1), .int .i64 1, .int .i64 (-1), .int .i64 (-1), .int .i64 (-1), .int .i64 (-1), .int .i64 (-1), .int .i64 (-1), .int .i64 0, .int .i64 (-1), .int .i64 (-1), .int .i64 (-1), .int .i64 (-1), .int .i64 (-1), .int .i64 1]),
  (2393, .cells [.str [120], .int .i64 1, .int .i64 0, .str [], .int .i64 0, .int .i64 3, .bool false, .bool false, .str [121], .int .i64 1, .int .i64 0, .str [], .int .i64 1, .int .i64 5, .bool false, .bool false]),
  (2760, .cells [.str [102], .int .i64 1, .int .i64 2, .int .i64 2, .int .i64 0, .str [], .slice 2393 0 2 2 8, .int .i64 2, .nilslice])]
theorem p5_140_run : pieceRun (runWith []) 140 p5_140 = true := by kernel_rfl
theorem p5_140_ok : CallOk Tryz.prog (fun f' xs H => if f' = 140 then piecePrim p5_140 xs H else none) :=
  piece_ok (by
    intro x hx
    simp only [List.mem_cons, List.not_mem_nil, or_false] at hx
    ) p5_140_run
end Go.Am
end
