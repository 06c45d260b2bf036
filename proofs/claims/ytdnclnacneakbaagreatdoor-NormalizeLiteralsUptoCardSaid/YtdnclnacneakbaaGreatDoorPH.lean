/- A part of Awake's run, checked. -/
import Derived.Test.YtdnclnacneakbaaGreatDoorL0
set_option linter.unusedVariables false
set_option linter.unusedSimpArgs false
set_option linter.unusedSectionVars false
set_option maxRecDepth 100000
namespace Go.Am
open Proofs
noncomputable def p12_90 : Piece := Piece.mk [.agg [.int .i64 2, .str [], .int .i64 0, .int .i64 0, .slice 5818 0 1 1 5]] 7697
  [(5499, .cells [.int .i64 9, .str [105, 110, 116], .int .i64 0, .int .i64 0, .nilslice]),
  (5536, .cells [.int .i64 9, .str [105, 110, 116], .int .i64 0, .int .i64 0, .nilslice]),
  (5552, .cells [.int .i64 7, .str [120], .int .i64 0, .int .i64 0, .slice 5499 0 1 1 5, .int .i64 7, .str [121], .int .i64 0, .int .i64 0, .slice 5536 0 1 1 5]),
  (5789, .cells [.int .i64 6, .str [], .int .i64 0, .int .i64 0, .slice 5552 0 2 2 5, .int .i64 9, .str [98, 111, 111, 108], .int .i64 0, .int .i64 0, .nilslice, .int .i64 11, .str [], .int .i64 0, .int .i64 0, .slice 6949 0 1 1 5]),
  (5818, .cells [.int .i64 5, .str [102], .int .i64 0, .int .i64 0, .slice 5789 0 3 3 5]),
  (6353, .cells [.int .i64 20, .str [120], .int .i64 0, .int .i64 0, .nilslice, .int .i64 24, .str [54], .int .i64 0, .int .i64 0, .nilslice]),
  (6880, .cells [.int .i64 29, .str [43], .int .i64 0, .int .i64 0, .slice 6353 0 2 2 5, .int .i64 20, .str [121], .int .i64 0, .int .i64 0, .nilslice]),
  (6946, .cells [.int .i64 29, .str [62], .int .i64 0, .int .i64 0, .slice 6880 0 2 2 5]),
  (6949, .cells [.int .i64 17, .str [], .int .i64 0, .int .i64 0, .slice 6946 0 1 1 5])]
  (.tuple [.slice 8641 0 13 13 8, .int .i64 0]) 8642 []
  [(8641, .cells [.int .i64 0, .int .i64 1, .int .i64 0, .int .i64 2, .int .i64 0, .str [], .int .i64 0, .int .i64 0, .int .i64 0, .int .i64 3, .int .i64 0, .int .i64 1, .int .i64 0, .str [], .int .i64 0, .int .i64 0, .int .i64 0, .int .i64 5, .int .i64 0, .int .i64 1, .int .i64 0, .str [], .int .i64 0, .int .i64 0, .int .i64 1, .int .i64 10, .int .i64 1, .int .i64 0, .int .i64 0, .str [], .int .i64 0, .int .i64 0, .int .i64 0, .int .i64 11, .int .i64 0, .int .i64 1, .int .i64 0, .str [], .int .i64 0, .int .i64 0, .int .i64 0, .int .i64 14, .int .i64 0, .int .i64 1, .int .i64 0, .str [], .int .i64 0, .int .i64 0, .int .i64 0, .int .i64 10, .int .i64 0, .int .i64 2, .int .i64 0, .str [], .int .i64 0, .int .i64 0, .int .i64 0, .int .i64 12, .int .i64 0, .int .i64 1, .int .i64 0, .str [], .int .i64 0, .int .i64 0, .int .i64 0, .int .i64 13, .int .i64 0, .int .i64 1, .int .i64 0, .str [], .int .i64 0, .int .i64 0, .int .i64 0, .int .i64 11, .int .i64 0, .int .i64 1, .int .i64 0, .str [], .int .i64 0, .int .i64 0, .int .i64 1, .int .i64 12, .int .i64 3, .int .i64 0, .int .i64 0, .str [], .int .i64 0, .int .i64 0, .int .i64 0, .int .i64 13, .int .i64 0, .int .i64 1, .int .i64 0, .str [], .int .i64 0, .int .i64 0, .int .i64 1, .int .i64 14, .int .i64 5, .int .i64 0, .int .i64 0, .str [], .int .i64 0, .int .i64 0])]
theorem p12_90_run : pieceRun (runWith []) 90 p12_90 = true := by kernel_rfl
theorem p12_90_ok : CallOk Tryz.prog (fun f' xs H => if f' = 90 then piecePrim p12_90 xs H else none) :=
  piece_ok (by
    intro x hx
    simp only [List.mem_cons, List.not_mem_nil, or_false] at hx
    ) p12_90_run
noncomputable def p14_100 : Piece := Piece.mk [.ptr 7121 0, .slice 8701 0 15 15 3] 9020
  [(5499, .cells [.int .i64 9, .str [105, 110, 116], .int .i64 0, .int .i64 0, .nilslice]),
  (5536, .cells [.int .i64 9, .str [105, 110, 116], .int .i64 0, .int .i64 0, .nilslice]),
  (5552, .cells [.int .i64 7, .str [120], .int .i64 0, .int .i64 0, .slice 5499 0 1 1 5, .int .i64 7, .str [121], .int .i64 0, .int .i64 0, .slice 5536 0 1 1 5]),
  (5789, .cells [.int .i64 6, .str [], .int .i64 0, .int .i64 0, .slice 5552 0 2 2 5, .int .i64 9, .str [98, 111, 111, 108], .int .i64 0, .int .i64 0, .nilslice, .int .i64 11, .str [], .int .i64 0, .int .i64 0, .slice 6949 0 1 1 5]),
  (5818, .cells [.int .i64 5, .str [102], .int .i64 0, .int .i64 0, .slice 5789 0 3 3 5]),
  (6353, .cells [.int .i64 20, .str [120], .int .i64 0, .int .i64 0, .nilslice, .int .i64 24, .str [54], .int .i64 0, .int .i64 0, .nilslice]),
  (6880, .cells [.int .i64 29, .str [43], .int .i64 0, .int .i64 0, .slice 6353 0 2 2 5, .int .i64 20, .str [121], .int .i64 0, .int .i64 0, .nilslice]),
  (6946, .cells [.int .i64 29, .str [62], .int .i64 0, .int .i64 0, .slice 6880 0 2 2 5]),
  (6949, .cells [.int .i64 17, .str [], .int .i64 0, .int .i64 0, .slice 6946 0 1 1 5]),
  (7121, .cells [.int .i64 2, .str [], .int .i64 0, .int .i64 0, .slice 5818 0 1 1 5, .slice 7225 0 15 15 8, .slice 7562 0 3 3 4, .slice 7461 0 15 15 1, .slice 7130 0 1 1 1, .slice 7651 0 1 1 1, .nilslice]),
  (7128, .cells [.int .i64 1]),
  (7130, .cells [.int .i64 1]),
  (7151, .cells [.int .i64 4]),
  (7158, .cells [.int .i64 3, .int .i64 5]),
  (7165, .cells [.int .i64 6]),
  (7179, .cells [.int .i64 2, .int .i64 7, .int .i64 8]),
  (7186, .cells [.int .i64 9]),
  (7193, .cells [.int .i64 10]),
  (7214, .cells [.int .i64 12, .int .i64 13]),
  (7221, .cells [.int .i64 11, .int .i64 14]),
  (7225, .cells [.int .i64 2, .str [], .int .i64 0, .int .i64 0, .slice 5818 0 1 1 5, .int .i64 0, .slice 7128 0 1 1 1, .int .i64 (-1), .int .i64 5, .str [102], .int .i64 0, .int .i64 0, .slice 5789 0 3 3 5, .int .i64 1, .slice 7179 0 3 3 1, .int .i64 0, .int .i64 6, .str [], .int .i64 0, .int .i64 0, .slice 5552 0 2 2 5, .int .i64 2, .slice 7158 0 2 2 1, .int .i64 0, .int .i64 7, .str [120], .int .i64 0, .int .i64 0, .slice 5499 0 1 1 5, .int .i64 3, .slice 7151 0 1 1 1, .int .i64 0, .int .i64 9, .str [105, 110, 116], .int .i64 0, .int .i64 0, .nilslice, .int .i64 4, .nilslice, .int .i64 0, .int .i64 7, .str [121], .int .i64 0, .int .i64 0, .slice 5536 0 1 1 5, .int .i64 5, .slice 7165 0 1 1 1, .int .i64 0, .int .i64 9, .str [105, 110, 116], .int .i64 0, .int .i64 0, .nilslice, .int .i64 6, .nilslice, .int .i64 0, .int .i64 9, .str [98, 111, 111, 108], .int .i64 0, .int .i64 0, .nilslice, .int .i64 7, .nilslice, .int .i64 0, .int .i64 11, .str [], .int .i64 0, .int .i64 0, .slice 6949 0 1 1 5, .int .i64 8, .slice 7186 0 1 1 1, .int .i64 0, .int .i64 17, .str [], .int .i64 0, .int .i64 0, .slice 6946 0 1 1 5, .int .i64 9, .slice 7193 0 1 1 1, .int .i64 0, .int .i64 29, .str [62], .int .i64 0, .int .i64 0, .slice 6880 0 2 2 5, .int .i64 10, .slice 7221 0 2 2 1, .int .i64 0, .int .i64 29, .str [43], .int .i64 0, .int .i64 0, .slice 6353 0 2 2 5, .int .i64 11, .slice 7214 0 2 2 1, .int .i64 0, .int .i64 20, .str [120], .int .i64 0, .int .i64 0, .nilslice, .int .i64 12, .nilslice, .int .i64 0, .int .i64 24, .str [54], .int .i64 0, .int .i64 0, .nilslice, .int .i64 13, .nilslice, .int .i64 0, .int .i64 20, .str [121], .int .i64 0, .int .i64 0, .nilslice, .int .i64 14, .nilslice, .int .i64 0]),
  (7461, .cells [.int .i64 (-1), .int .i64 0, .int .i64 (-1), .int .i64 1, .int .i64 (-1), .int .i64 2, .int .i64 (-1), .int .i64 (-1), .int .i64 (-1), .int .i64 (-1), .int .i64 (-1), .int .i64 (-1), .int .i64 1, .int .i64 (-1), .int .i64 2]),
  (7562, .cells [.int .i64 2, .str [102], .int .i64 1, .int .i64 (-1), .int .i64 3, .str [120], .int .i64 3, .int .i64 1, .int .i64 3, .str [121], .int .i64 5, .int .i64 1]),
  (7651, .cells [.nilslice]),
  (8701, .cells [.int .i64 0, .int .i64 0, .str [], .int .i64 2, .int .i64 0, .str [], .int .i64 0, .int .i64 0, .str [], .int .i64 1, .int .i64 0, .str [], .int .i64 0, .int .i64 0, .str [], .int .i64 1, .int .i64 0, .str [], .int .i64 0, .int .i64 0, .str [], .int .i64 0, .int .i64 0, .str [], .int .i64 0, .int .i64 0, .str [], .int .i64 0, .int .i64 0, .str [], .int .i64 2, .int .i64 0, .str [], .int .i64 1, .int .i64 0, .str [], .int .i64 1, .int .i64 0, .str [], .int .i64 1, .int .i64 0, .str [], .int .i64 1, .int .i64 0, .str []])]
  (.agg [.int .i64 2, .str [], .int .i64 0, .int .i64 0, .slice 5818 0 1 1 5, .slice 9301 0 15 15 3, .slice 9303 0 15 15 1, .nilslice, .slice 9348 0 1 1 9]) 9349 []
  [(9301, .cells [.int .i64 0, .int .i64 0, .str [], .int .i64 0, .int .i64 0, .str [], .int .i64 0, .int .i64 0, .str [], .int .i64 0, .int .i64 0, .str [], .int .i64 0, .int .i64 0, .str [], .int .i64 0, .int .i64 0, .str [], .int .i64 0, .int .i64 0, .str [], .int .i64 0, .int .i64 0, .str [], .int .i64 0, .int .i64 0, .str [], .int .i64 0, .int .i64 0, .str [], .int .i64 2, .int .i64 0, .str [], .int .i64 1, .int .i64 0, .str [], .int .i64 1, .int .i64 0, .str [], .int .i64 1, .int .i64 0, .str [], .int .i64 1, .int .i64 0, .str []]),
  (9303, .cells [.int .i64 (-1), .int .i64 (-1), .int .i64 (-1), .int .i64 0, .int .i64 (-1), .int .i64 1, .int .i64 (-1), .int .i64 (-1), .int .i64 (-1), .int .i64 (-1), .int .i64 (-1), .int .i64 (-1), .int .i64 0, .int .i64 (-1), .int .i64 1]),
  (9314, .cells [.str [120], .int .i64 1, .int .i64 0, .str [], .int .i64 0, .int .i64 3, .bool false, .bool false, .str [121], .int .i64 1, .int .i64 0, .str [], .int .i64 1, .int .i64 5, .bool false, .bool false]),
  (9348, .cells [.str [102], .int .i64 1, .int .i64 2, .int .i64 2, .int .i64 0, .str [], .slice 9314 0 2 2 8, .int .i64 2, .nilslice])]
theorem p14_100_run : pieceRun (runWith []) 100 p14_100 = true := by kernel_rfl
theorem p14_100_ok : CallOk Tryz.prog (fun f' xs H => if f' = 100 then piecePrim p14_100 xs H else none) :=
  piece_ok (by
    intro x hx
    simp only [List.mem_cons, List.not_mem_nil, or_false] at hx
    ) p14_100_run
noncomputable def p16_13 : Piece := Piece.mk [.agg [.int .i64 2, .str [], .int .i64 0, .int .i64 0, .slice 5818 0 1 1 5, .slice 9301 0 15 15 3, .slice 9303 0 15 15 1, .nilslice, .slice 9348 0 1 1 9], .str [102]] 9384
  [(5499, .cells [.int .i64 9, .str [105, 110, 116], .int .i64 0, .int .i64 0, .nilslice]),
  (5536, .cells [.int .i64 9, .str [105, 110, 116], .int .i64 0, .int .i64 0, .nilslice]),
  (5552, .cells [.int .i64 7, .str [120], .int .i64 0, .int .i64 0, .slice 5499 0 1 1 5, .int .i64 7, .str [121], .int .i64 0, .int .i64 0, .slice 5536 0 1 1 5]),
  (5789, .cells [.int .i64 6, .str [], .int .i64 0, .int .i64 0, .slice 5552 0 2 2 5, .int .i64 9, .str [98, 111, 111, 108], .int .i64 0, .int .i64 0, .nilslice, .int .i64 11, .str [], .int .i64 0, .int .i64 0, .slice 6949 0 1 1 5]),
  (5818, .cells [.int .i64 5, .str [102], .int .i64 0, .int .i64 0, .slice 5789 0 3 3 5]),
  (6353, .cells [.int .i64 20, .str [120], .int .i64 0, .int .i64 0, .nilslice, .int .i64 24, .str [54], .int .i64 0, .int .i64 0, .nilslice]),
  (6880, .cells [.int .i64 29, .str [43], .int .i64 0, .int .i64 0, .slice 6353 0 2 2 5, .int .i64 20, .str [121], .int .i64 0, .int .i64 0, .nilslice]),
  (6946, .cells [.int .i64 29, .str [62], .int .i64 0, .int .i64 0, .slice 6880 0 2 2 5]),
  (6949, .cells [.int .i64 17, .str [], .int .i64 0, .int .i64 0, .slice 6946 0 1 1 5]),
  (9301, .cells [.int .i64 0, .int .i64 0, .str [], .int .i64 0, .int .i64 0, .str [], .int .i64 0, .int .i64 0, .str [], .int .i64 0, .int .i64 0, .str [], .int .i64 0, .int .i64 0, .str [], .int .i64 0, .int .i64 0, .str [], .int .i64 0, .int .i64 0, .str [], .int .i64 0, .int .i64 0, .str [], .int .i64 0, .int .i64 0, .str [], .int .i64 0, .int .i64 0, .str [], .int .i64 2, .int .i64 0, .str [], .int .i64 1, .int .i64 0, .str [], .int .i64 1, .int .i64 0, .str [], .int .i64 1, .int .i64 0, .str [], .int .i64 1, .int .i64 0, .str []]),
  (9303, .cells [.int .i64 (-1), .int .i64 (-1), .int .i64 (-1), .int .i64 0, .int .i64 (-1), .int .i64 1, .int .i64 (-1), .int .i64 (-1), .int .i64 (-1), .int .i64 (-1), .int .i64 (-1), .int .i64 (-1), .int .i64 0, .int .i64 (-1), .int .i64 1]),
  (9314, .cells [.str [120], .int .i64 1, .int .i64 0, .str [], .int .i64 0, .int .i64 3, .bool false, .bool false, .str [121], .int .i64 1, .int .i64 0, .str [], .int .i64 1, .int .i64 5, .bool false, .bool false]),
  (9348, .cells [.str [102], .int .i64 1, .int .i64 2, .int .i64 2, .int .i64 0, .str [], .slice 9314 0 2 2 8, .int .i64 2, .nilslice])]
  (.tuple [.agg [.int .i64 2, .str [], .int .i64 0, .int .i64 0, .slice 10276 0 1 1 5], .int .i64 0]) 10277 []
  [(10049, .cells [.int .i64 9, .str [105, 110, 116], .int .i64 0, .int .i64 0, .nilslice]),
  (10086, .cells [.int .i64 9, .str [105, 110, 116], .int .i64 0, .int .i64 0, .nilslice]),
  (10102, .cells [.int .i64 7, .str [118, 49], .int .i64 0, .int .i64 0, .slice 10049 0 1 1 5, .int .i64 7, .str [118, 50], .int .i64 0, .int .i64 0, .slice 10086 0 1 1 5]),
  (10183, .cells [.int .i64 20, .str [118, 49], .int .i64 0, .int .i64 0, .nilslice, .int .i64 24, .str [54], .int .i64 0, .int .i64 0, .nilslice]),
  (10210, .cells [.int .i64 29, .str [43], .int .i64 0, .int .i64 0, .slice 10183 0 2 2 5, .int .i64 20, .str [118, 50], .int .i64 0, .int .i64 0, .nilslice]),
  (10219, .cells [.int .i64 29, .str [62], .int .i64 0, .int .i64 0, .slice 10210 0 2 2 5]),
  (10236, .cells [.int .i64 17, .str [], .int .i64 0, .int .i64 0, .slice 10219 0 1 1 5]),
  (10255, .cells [.int .i64 6, .str [], .int .i64 0, .int .i64 0, .slice 10102 0 2 2 5, .int .i64 9, .str [98, 111, 111, 108], .int .i64 0, .int .i64 0, .nilslice, .int .i64 11, .str [], .int .i64 0, .int .i64 0, .slice 10236 0 1 1 5]),
  (10276, .cells [.int .i64 5, .str [102], .int .i64 0, .int .i64 0, .slice 10255 0 3 3 5])]
theorem p16_13_run : pieceRun (runWith []) 13 p16_13 = true := by kernel_rfl
theorem p16_13_ok : CallOk Tryz.prog (fun f' xs H => if f' = 13 then piecePrim p16_13 xs H else none) :=
  piece_ok (by
    intro x hx
    simp only [List.mem_cons, List.not_mem_nil, or_false] at hx
    ) p16_13_run
end Go.Am
