/- A part of Awake's run, checked. -/
import Derived.Test.YtdnclnacneakbaaGreatDoorL0
set_option linter.unusedVariables false
set_option linter.unusedSimpArgs false
set_option linter.unusedSectionVars false
set_option maxRecDepth 100000
namespace Go.Am
open Proofs
noncomputable def p20_100 : Piece := Piece.mk [.ptr 10444 0, .slice 12024 0 15 15 3] 12343
  [(10049, .cells [.int .i64 9, .str [105, 110, 116], .int .i64 0, .int .i64 0, .nilslice]),
  (10086, .cells [.int .i64 9, .str [105, 110, 116], .int .i64 0, .int .i64 0, .nilslice]),
  (10102, .cells [.int .i64 7, .str [118, 49], .int .i64 0, .int .i64 0, .slice 10049 0 1 1 5, .int .i64 7, .str [118, 50], .int .i64 0, .int .i64 0, .slice 10086 0 1 1 5]),
  (10183, .cells [.int .i64 20, .str [118, 49], .int .i64 0, .int .i64 0, .nilslice, .int .i64 24, .str [54], .int .i64 0, .int .i64 0, .nilslice]),
  (10210, .cells [.int .i64 29, .str [43], .int .i64 0, .int .i64 0, .slice 10183 0 2 2 5, .int .i64 20, .str [118, 50], .int .i64 0, .int .i64 0, .nilslice]),
  (10219, .cells [.int .i64 29, .str [62], .int .i64 0, .int .i64 0, .slice 10210 0 2 2 5]),
  (10236, .cells [.int .i64 17, .str [], .int .i64 0, .int .i64 0, .slice 10219 0 1 1 5]),
  (10255, .cells [.int .i64 6, .str [], .int .i64 0, .int .i64 0, .slice 10102 0 2 2 5, .int .i64 9, .str [98, 111, 111, 108], .int .i64 0, .int .i64 0, .nilslice, .int .i64 11, .str [], .int .i64 0, .int .i64 0, .slice 10236 0 1 1 5]),
  (10276, .cells [.int .i64 5, .str [102], .int .i64 0, .int .i64 0, .slice 10255 0 3 3 5]),
  (10444, .cells [.int .i64 2, .str [], .int .i64 0, .int .i64 0, .slice 10276 0 1 1 5, .slice 10548 0 15 15 8, .slice 10885 0 3 3 4, .slice 10784 0 15 15 1, .slice 10453 0 1 1 1, .slice 10974 0 1 1 1, .nilslice]),
  (10451, .cells [.int .i64 1]),
  (10453, .cells [.int .i64 1]),
  (10474, .cells [.int .i64 4]),
  (10481, .cells [.int .i64 3, .int .i64 5]),
  (10488, .cells [.int .i64 6]),
  (10502, .cells [.int .i64 2, .int .i64 7, .int .i64 8]),
  (10509, .cells [.int .i64 9]),
  (10516, .cells [.int .i64 10]),
  (10537, .cells [.int .i64 12, .int .i64 13]),
  (10544, .cells [.int .i64 11, .int .i64 14]),
  (10548, .cells [.int .i64 2, .str [], .int .i64 0, .int .i64 0, .slice 10276 0 1 1 5, .int .i64 0, .slice 10451 0 1 1 1, .int .i64 (-1), .int .i64 5, .str [102], .int .i64 0, .int .i64 0, .slice 10255 0 3 3 5, .int .i64 1, .slice 10502 0 3 3 1, .int .i64 0, .int .i64 6, .str [], .int .i64 0, .int .i64 0, .slice 10102 0 2 2 5, .int .i64 2, .slice 10481 0 2 2 1, .int .i64 0, .int .i64 7, .str [118, 49], .int .i64 0, .int .i64 0, .slice 10049 0 1 1 5, .int .i64 3, .slice 10474 0 1 1 1, .int .i64 0, .int .i64 9, .str [105, 110, 116], .int .i64 0, .int .i64 0, .nilslice, .int .i64 4, .nilslice, .int .i64 0, .int .i64 7, .str [118, 50], .int .i64 0, .int .i64 0, .slice 10086 0 1 1 5, .int .i64 5, .slice 10488 0 1 1 1, .int .i64 0, .int .i64 9, .str [105, 110, 116], .int .i64 0, .int .i64 0, .nilslice, .int .i64 6, .nilslice, .int .i64 0, .int .i64 9, .str [98, 111, 111, 108], .int .i64 0, .int .i64 0, .nilslice, .int .i64 7, .nilslice, .int .i64 0, .int .i64 11, .str [], .int .i64 0, .int .i64 0, .slice 10236 0 1 1 5, .int .i64 8, .slice 10509 0 1 1 1, .int .i64 0, .int .i64 17, .str [], .int .i64 0, .int .i64 0, .slice 10219 0 1 1 5, .int .i64 9, .slice 10516 0 1 1 1, .int .i64 0, .int .i64 29, .str [62], .int .i64 0, .int .i64 0, .slice 10210 0 2 2 5, .int .i64 10, .slice 10544 0 2 2 1, .int .i64 0, .int .i64 29, .str [43], .int .i64 0, .int .i64 0, .slice 10183 0 2 2 5, .int .i64 11, .slice 10537 0 2 2 1, .int .i64 0, .int .i64 20, .str [118, 49], .int .i64 0, .int .i64 0, .nilslice, .int .i64 12, .nilslice, .int .i64 0, .int .i64 24, .str [54], .int .i64 0, .int .i64 0, .nilslice, .int .i64 13, .nilslice, .int .i64 0, .int .i64 20, .str [118, 50], .int .i64 0, .int .i64 0, .nilslice, .int .i64 14, .nilslice, .int .i64 0]),
  (10784, .cells [.int .i64 (-1), .int .i64 0, .int .i64 (-1), .int .i64 1, .int .i64 (-1), .int .i64 2, .int .i64 (-1), .int .i64 (-1), .int .i64 (-1), .int .i64 (-1), .int .i64 (-1), .int .i64 (-1), .int .i64 1, .int .i64 (-1), .int .i64 2]),
  (10885, .cells [.int .i64 2, .str [102], .int .i64 1, .int .i64 (-1), .int .i64 3, .str [118, 49], .int .i64 3, .int .i64 1, .int .i64 3, .str [118, 50], .int .i64 5, .int .i64 1]),
  (10974, .cells [.nilslice]),
  (12024, .cells [.int .i64 0, .int .i64 0, .str [], .int .i64 2, .int .i64 0, .str [], .int .i64 0, .int .i64 0, .str [], .int .i64 1, .int .i64 0, .str [], .int .i64 0, .int .i64 0, .str [], .int .i64 1, .int .i64 0, .str [], .int .i64 0, .int .i64 0, .str [], .int .i64 0, .int .i64 0, .str [], .int .i64 0, .int .i64 0, .str [], .int .i64 0, .int .i64 0, .str [], .int .i64 2, .int .i64 0, .str [], .int .i64 1, .int .i64 0, .str [], .int .i64 1, .int .i64 0, .str [], .int .i64 1, .int .i64 0, .str [], .int .i64 1, .int .i64 0, .str []])]
  (.agg [.int .i64 2, .str [], .int .i64 0, .int .i64 0, .slice 10276 0 1 1 5, .slice 12624 0 15 15 3, .slice 12626 0 15 15 1, .nilslice, .slice 12671 0 1 1 9]) 12672 []
  [(12624, .cells [.int .i64 0, .int .i64 0, .str [], .int .i64 0, .int .i64 0, .str [], .int .i64 0, .int .i64 0, .str [], .int .i64 0, .int .i64 0, .str [], .int .i64 0, .int .i64 0, .str [], .int .i64 0, .int .i64 0, .str [], .int .i64 0, .int .i64 0, .str [], .int .i64 0, .int .i64 0, .str [], .int .i64 0, .int .i64 0, .str [], .int .i64 0, .int .i64 0, .str [], .int .i64 2, .int .i64 0, .str [], .int .i64 1, .int .i64 0, .str [], .int .i64 1, .int .i64 0, .str [], .int .i64 1, .int .i64 0, .str [], .int .i64 1, .int .i64 0, .str []]),
  (12626, .cells [.int .i64 (-1), .int .i64 (-1), .int .i64 (-1), .int .i64 0, .int .i64 (-1), .int .i64 1, .int .i64 (-1), .int .i64 (-1), .int .i64 (-1), .int .i64 (-1), .int .i64 (-1), .int .i64 (-1), .int .i64 0, .int .i64 (-1), .int .i64 1]),
  (12637, .cells [.str [118, 49], .int .i64 1, .int .i64 0, .str [], .int .i64 0, .int .i64 3, .bool false, .bool false, .str [118, 50], .int .i64 1, .int .i64 0, .str [], .int .i64 1, .int .i64 5, .bool false, .bool false]),
  (12671, .cells [.str [102], .int .i64 1, .int .i64 2, .int .i64 2, .int .i64 0, .str [], .slice 12637 0 2 2 8, .int .i64 2, .nilslice])]
theorem p20_100_run : pieceRun (runWith []) 100 p20_100 = true := by kernel_rfl
theorem p20_100_ok : CallOk Tryz.prog (fun f' xs H => if f' = 100 then piecePrim p20_100 xs H else none) :=
  piece_ok (by
    intro x hx
    simp only [List.mem_cons, List.not_mem_nil, or_false] at hx
    ) p20_100_run
noncomputable def p22_16 : Piece := Piece.mk [.agg [.int .i64 2, .str [], .int .i64 0, .int .i64 0, .slice 10276 0 1 1 5, .slice 12624 0 15 15 3, .slice 12626 0 15 15 1, .nilslice, .slice 12671 0 1 1 9]] 12707
  [(10049, .cells [.int .i64 9, .str [105, 110, 116], .int .i64 0, .int .i64 0, .nilslice]),
  (10086, .cells [.int .i64 9, .str [105, 110, 116], .int .i64 0, .int .i64 0, .nilslice]),
  (10102, .cells [.int .i64 7, .str [118, 49], .int .i64 0, .int .i64 0, .slice 10049 0 1 1 5, .int .i64 7, .str [118, 50], .int .i64 0, .int .i64 0, .slice 10086 0 1 1 5]),
  (10183, .cells [.int .i64 20, .str [118, 49], .int .i64 0, .int .i64 0, .nilslice, .int .i64 24, .str [54], .int .i64 0, .int .i64 0, .nilslice]),
  (10210, .cells [.int .i64 29, .str [43], .int .i64 0, .int .i64 0, .slice 10183 0 2 2 5, .int .i64 20, .str [118, 50], .int .i64 0, .int .i64 0, .nilslice]),
  (10219, .cells [.int .i64 29, .str [62], .int .i64 0, .int .i64 0, .slice 10210 0 2 2 5]),
  (10236, .cells [.int .i64 17, .str [], .int .i64 0, .int .i64 0, .slice 10219 0 1 1 5]),
  (10255, .cells [.int .i64 6, .str [], .int .i64 0, .int .i64 0, .slice 10102 0 2 2 5, .int .i64 9, .str [98, 111, 111, 108], .int .i64 0, .int .i64 0, .nilslice, .int .i64 11, .str [], .int .i64 0, .int .i64 0, .slice 10236 0 1 1 5]),
  (10276, .cells [.int .i64 5, .str [102], .int .i64 0, .int .i64 0, .slice 10255 0 3 3 5]),
  (12624, .cells [.int .i64 0, .int .i64 0, .str [], .int .i64 0, .int .i64 0, .str [], .int .i64 0, .int .i64 0, .str [], .int .i64 0, .int .i64 0, .str [], .int .i64 0, .int .i64 0, .str [], .int .i64 0, .int .i64 0, .str [], .int .i64 0, .int .i64 0, .str [], .int .i64 0, .int .i64 0, .str [], .int .i64 0, .int .i64 0, .str [], .int .i64 0, .int .i64 0, .str [], .int .i64 2, .int .i64 0, .str [], .int .i64 1, .int .i64 0, .str [], .int .i64 1, .int .i64 0, .str [], .int .i64 1, .int .i64 0, .str [], .int .i64 1, .int .i64 0, .str []]),
  (12626, .cells [.int .i64 (-1), .int .i64 (-1), .int .i64 (-1), .int .i64 0, .int .i64 (-1), .int .i64 1, .int .i64 (-1), .int .i64 (-1), .int .i64 (-1), .int .i64 (-1), .int .i64 (-1), .int .i64 (-1), .int .i64 0, .int .i64 (-1), .int .i64 1]),
  (12637, .cells [.str [118, 49], .int .i64 1, .int .i64 0, .str [], .int .i64 0, .int .i64 3, .bool false, .bool false, .str [118, 50], .int .i64 1, .int .i64 0, .str [], .int .i64 1, .int .i64 5, .bool false, .bool false]),
  (12671, .cells [.str [102], .int .i64 1, .int .i64 2, .int .i64 2, .int .i64 0, .str [], .slice 12637 0 2 2 8, .int .i64 2, .nilslice])]
  (.tuple [.agg [.int .i64 2, .str [], .int .i64 0, .int .i64 0, .slice 13105 0 1 1 5], .int .i64 0]) 13139 []
  [(12738, .cells [.int .i64 9, .str [105, 110, 116], .int .i64 0, .int .i64 0, .nilslice]),
  (12768, .cells [.int .i64 9, .str [105, 110, 116], .int .i64 0, .int .i64 0, .nilslice]),
  (12777, .cells [.int .i64 7, .str [118, 49], .int .i64 0, .int .i64 0, .slice 12738 0 1 1 5, .int .i64 7, .str [118, 50], .int .i64 0, .int .i64 0, .slice 12768 0 1 1 5]),
  (12858, .cells [.int .i64 24, .str [54], .int .i64 0, .int .i64 0, .nilslice, .int .i64 20, .str [118, 49], .int .i64 0, .int .i64 0, .nilslice]),
  (13029, .cells [.int .i64 20, .str [118, 50], .int .i64 0, .int .i64 0, .nilslice, .int .i64 29, .str [43], .int .i64 0, .int .i64 0, .slice 12858 0 2 2 5]),
  (13048, .cells [.int .i64 29, .str [60], .int .i64 0, .int .i64 0, .slice 13029 0 2 2 5]),
  (13065, .cells [.int .i64 17, .str [], .int .i64 0, .int .i64 0, .slice 13048 0 1 1 5]),
  (13084, .cells [.int .i64 6, .str [], .int .i64 0, .int .i64 0, .slice 12777 0 2 2 5, .int .i64 9, .str [98, 111, 111, 108], .int .i64 0, .int .i64 0, .nilslice, .int .i64 11, .str [], .int .i64 0, .int .i64 0, .slice 13065 0 1 1 5]),
  (13105, .cells [.int .i64 5, .str [102], .int .i64 0, .int .i64 0, .slice 13084 0 3 3 5])]
theorem p22_16_run : pieceRun (runWith []) 16 p22_16 = true := by kernel_rfl
theorem p22_16_ok : CallOk Tryz.prog (fun f' xs H => if f' = 16 then piecePrim p22_16 xs H else none) :=
  piece_ok (by
    intro x hx
    simp only [List.mem_cons, List.not_mem_nil, or_false] at hx
    ) p22_16_run
noncomputable def p24_15 : Piece := Piece.mk [.agg [.int .i64 2, .str [], .int .i64 0, .int .i64 0, .slice 3138 0 1 1 5]] 13209
  [(2819, .cells [.int .i64 9, .str [105, 110, 116], .int .i64 0, .int .i64 0, .nilslice]),
  (2856, .cells [.int .i64 9, .str [105, 110, 116], .int .i64 0, .int .i64 0, .nilslice]),
  (2872, .cells [.int .i64 7, .str [120], .int .i64 0, .int .i64 0, .slice 2819 0 1 1 5, .int .i64 7, .str [121], .int .i64 0, .int .i64 0, .slice 2856 0 1 1 5]),
  (3109, .cells [.int .i64 6, .str [], .int .i64 0, .int .i64 0, .slice 2872 0 2 2 5, .int .i64 9, .str [98, 111, 111, 108], .int .i64 0, .int .i64 0, .nilslice, .int .i64 11, .str [], .int .i64 0, .int .i64 0, .slice 4269 0 1 1 5]),
  (3138, .cells [.int .i64 5, .str [102], .int .i64 0, .int .i64 0, .slice 3109 0 3 3 5]),
  (3673, .cells [.int .i64 20, .str [120], .int .i64 0, .int .i64 0, .nilslice, .int .i64 24, .str [54], .int .i64 0, .int .i64 0, .nilslice]),
  (4200, .cells [.int .i64 29, .str [43], .int .i64 0, .int .i64 0, .slice 3673 0 2 2 5, .int .i64 20, .str [121], .int .i64 0, .int .i64 0, .nilslice]),
  (4266, .cells [.int .i64 29, .str [62], .int .i64 0, .int .i64 0, .slice 4200 0 2 2 5]),
  (4269, .cells [.int .i64 17, .str [], .int .i64 0, .int .i64 0, .slice 4266 0 1 1 5])]
  (.tuple [.str [112, 114, 111, 99, 32, 102, 40, 120, 58, 32, 105, 110, 116, 44, 32, 121, 58, 32, 105, 110, 116, 41, 58, 32, 98, 111, 111, 108, 32, 123, 10, 32, 32, 114, 101, 116, 117, 114, 110, 32, 120, 32, 43, 32, 54, 32, 62, 32, 121, 59, 10, 125, 10], .int .i64 0]) 13341 []
  []
theorem p24_15_run : pieceRun (runWith []) 15 p24_15 = true := by kernel_rfl
theorem p24_15_ok : CallOk Tryz.prog (fun f' xs H => if f' = 15 then piecePrim p24_15 xs H else none) :=
  piece_ok (by
    intro x hx
    simp only [List.mem_cons, List.not_mem_nil, or_false] at hx
    ) p24_15_run
noncomputable def p25_15 : Piece := Piece.mk [.agg [.int .i64 2, .str [], .int .i64 0, .int .i64 0, .slice 13105 0 1 1 5]] 13341
  [(12738, .cells [.int .i64 9, .str [105, 110, 116], .int .i64 0, .int .i64 0, .nilslice]),
  (12768, .cells [.int .i64 9, .str [105, 110, 116], .int .i64 0, .int .i64 0, .nilslice]),
  (12777, .cells [.int .i64 7, .str [118, 49], .int .i64 0, .int .i64 0, .slice 12738 0 1 1 5, .int .i64 7, .str [118, 50], .int .i64 0, .int .i64 0, .slice 12768 0 1 1 5]),
  (12858, .cells [.int .i64 24, .str [54], .int .i64 0, .int .i64 0, .nilslice, .int .i64 20, .str [118, 49], .int .i64 0, .int .i64 0, .nilslice]),
  (13029, .cells [.int .i64 20, .str [118, 50], .int .i64 0, .int .i64 0, .nilslice, .int .i64 29, .str [43], .int .i64 0, .int .i64 0, .slice 12858 0 2 2 5]),
  (13048, .cells [.int .i64 29, .str [60], .int .i64 0, .int .i64 0, .slice 13029 0 2 2 5]),
  (13065, .cells [.int .i64 17, .str [], .int .i64 0, .int .i64 0, .slice 13048 0 1 1 5]),
  (13084, .cells [.int .i64 6, .str [], .int .i64 0, .int .i64 0, .slice 12777 0 2 2 5, .int .i64 9, .str [98, 111, 111, 108], .int .i64 0, .int .i64 0, .nilslice, .int .i64 11, .str [], .int .i64 0, .int .i64 0, .slice 13065 0 1 1 5]),
  (13105, .cells [.int .i64 5, .str [102], .int .i64 0, .int .i64 0, .slice 13084 0 3 3 5])]
  (.tuple [.str [112, 114, 111, 99, 32, 102, 40, 118, 49, 58, 32, 105, 110, 116, 44, 32, 118, 50, 58, 32, 105, 110, 116, 41, 58, 32, 98, 111, 111, 108, 32, 123, 10, 32, 32, 114, 101, 116, 117, 114, 110, 32, 118, 50, 32, 60, 32, 54, 32, 43, 32, 118, 49, 59, 10, 125, 10], .int .i64 0]) 13473 []
  []
theorem p25_15_run : pieceRun (runWith []) 15 p25_15 = true := by kernel_rfl
theorem p25_15_ok : CallOk Tryz.prog (fun f' xs H => if f' = 15 then piecePrim p25_15 xs H else none) :=
  piece_ok (by
    intro x hx
    simp only [List.mem_cons, List.not_mem_nil, or_false] at hx
    ) p25_15_run
noncomputable def p26_16 : Piece := Piece.mk [.agg [.int .i64 2, .str [], .int .i64 0, .int .i64 58, .slice 379 0 1 1 5, .slice 2021 0 19 19 3, .slice 2023 0 19 19 1, .slice 1856 0 0 0 2, .slice 2760 0 1 1 9]] 13473
  [(198, .cells [.int .i64 9, .str [105, 110, 116], .int .i64 10, .int .i64 13, .nilslice]),
  (219, .cells [.int .i64 9, .str [105, 110, 116], .int .i64 18, .int .i64 21, .nilslice]),
  (223, .cells [.int .i64 7, .str [120], .int .i64 7, .int .i64 13, .slice 198 0 1 1 5, .int .i64 7, .str [121], .int .i64 15, .int .i64 21, .slice 219 0 1 1 5]),
  (302, .cells [.int .i64 24, .str [50], .int .i64 42, .int .i64 43, .nilslice, .int .i64 24, .str [51], .int .i64 46, .int .i64 47, .nilslice]),
  (308, .cells [.int .i64 20, .str [120], .int .i64 38, .int .i64 39, .nilslice, .int .i64 29, .str [42], .int .i64 42, .int .i64 47, .slice 302 0 2 2 5]),
  (344, .cells [.int .i64 24, .str [49], .int .i64 50, .int .i64 51, .nilslice, .int .i64 20, .str [121], .int .i64 54, .int .i64 55, .nilslice]),
  (353, .cells [.int .i64 29, .str [43], .int .i64 38, .int .i64 47, .slice 308 0 2 2 5, .int .i64 29, .str [42], .int .i64 50, .int .i64 55, .slice 344 0 2 2 5]),
  (364, .cells [.int .i64 29, .str [62], .int .i64 38, .int .i64 55, .slice 353 0 2 2 5]),
  (368, .cells [.int .i64 17, .str [], .int .i64 31, .int .i64 56, .slice 364 0 1 1 5]),
  (375, .cells [.int .i64 6, .str [], .int .i64 6, .int .i64 22, .slice 223 0 2 2 5, .int .i64 9, .str [98, 111, 111, 108], .int .i64 24, .int .i64 28, .nilslice, .int .i64 11, .str [], .int .i64 29, .int .i64 58, .slice 368 0 1 1 5]),
  (379, .cells [.int .i64 5, .str [102], .int .i64 0, .int .i64 58, .slice 375 0 3 3 5]),
  (1856, .cells []),
  (2021, .cells [.int .i64 0, .int .i64 0, .str [], .int .i64 0, .int .i64 0, .str [], .int .i64 0, .int .i64 0, .str [], .int .i64 0, .int .i64 0, .str [], .int .i64 0, .int .i64 0, .str [], .int .i64 0, .int .i64 0, .str [], .int .i64 0, .int .i64 0, .str [], .int .i64 0, .int .i64 0, .str [], .int .i64 0, .int .i64 0, .str [], .int .i64 0, .int .i64 0, .str [], .int .i64 2, .int .i64 0, .str [], .int .i64 1, .int .i64 0, .str [], .int .i64 1, .int .i64 0, .str [], .int .i64 1, .int .i64 0, .str [], .int .i64 1, .int .i64 0, .str [], .int .i64 1, .int .i64 0, .str [], .int .i64 1, .int .i64 0, .str [], .int .i64 1, .int .i64 0, .str [], .int .i64 1, .int .i64 0, .str []]),
  (2023, .cells [.int .i64 (-1), .int .i64 (-1), .int .i64 (-1), .int .i64 0, .int .i64 (-1), .int .i64 1, .int .i64 (-1), .int .i64 (-1), .int .i64 (-1), .int .i64 (-1), .int .i64 (-1), .int .i64 (-1), .int .i64 0, .int .i64 (-1), .int .i64 (-1), .int .i64 (-1), .int .i64 (-1), .int .i64 (-1), .int .i64 1]),
  (2393, .cells [.str [120], .int .i64 1, .int .i64 0, .str [], .int .i64 0, .int .i64 3, .bool false, .bool false, .str [121], .int .i64 1, .int .i64 0, .str [], .int .i64 1, .int .i64 5, .bool false, .bool false]),
  (2760, .cells [.str [102], .int .i64 1, .int .i64 2, .int .i64 2, .int .i64 0, .str [], .slice 2393 0 2 2 8, .int .i64 2, .nilslice])]
  (.tuple [.agg [.int .i64 2, .str [], .int .i64 0, .int .i64 0, .slice 14313 0 1 1 5], .int .i64 0]) 14355 []
  [(13504, .cells [.int .i64 9, .str [105, 110, 116], .int .i64 0, .int .i64 0, .nilslice]),
  (13534, .cells [.int .i64 9, .str [105, 110, 116], .int .i64 0, .int .i64 0, .nilslice]),
  (13543, .cells [.int .i64 7, .str [120], .int .i64 0, .int .i64 0, .slice 13504 0 1 1 5, .int .i64 7, .str [121], .int .i64 0, .int .i64 0, .slice 13534 0 1 1 5]),
  (13643, .cells [.int .i64 24, .str [50], .int .i64 0, .int .i64 0, .nilslice, .int .i64 24, .str [51], .int .i64 0, .int .i64 0, .nilslice]),
  (13796, .cells [.int .i64 29, .str [42], .int .i64 0, .int .i64 0, .slice 13643 0 2 2 5, .int .i64 20, .str [120], .int .i64 0, .int .i64 0, .nilslice]),
  (14044, .cells [.int .i64 24, .str [49], .int .i64 0, .int .i64 0, .nilslice, .int .i64 20, .str [121], .int .i64 0, .int .i64 0, .nilslice]),
  (14197, .cells [.int .i64 29, .str [42], .int .i64 0, .int .i64 0, .slice 14044 0 2 2 5, .int .i64 29, .str [43], .int .i64 0, .int .i64 0, .slice 13796 0 2 2 5]),
  (14232, .cells [.int .i64 29, .str [60], .int .i64 0, .int .i64 0, .slice 14197 0 2 2 5]),
  (14257, .cells [.int .i64 17, .str [], .int .i64 0, .int .i64 0, .slice 14232 0 1 1 5]),
  (14284, .cells [.int .i64 6, .str [], .int .i64 0, .int .i64 0, .slice 13543 0 2 2 5, .int .i64 9, .str [98, 111, 111, 108], .int .i64 0, .int .i64 0, .nilslice, .int .i64 11, .str [], .int .i64 0, .int .i64 0, .slice 14257 0 1 1 5]),
  (14313, .cells [.int .i64 5, .str [102], .int .i64 0, .int .i64 0, .slice 14284 0 3 3 5])]
theorem p26_16_run : pieceRun (runWith []) 16 p26_16 = true := by kernel_rfl
theorem p26_16_ok : CallOk Tryz.prog (fun f' xs H => if f' = 16 then piecePrim p26_16 xs H else none) :=
  piece_ok (by
    intro x hx
    simp only [List.mem_cons, List.not_mem_nil, or_false] at hx
    ) p26_16_run
end Go.Am
