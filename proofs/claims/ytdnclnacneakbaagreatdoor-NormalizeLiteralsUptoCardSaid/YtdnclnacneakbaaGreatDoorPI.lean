/- A part of Awake's run, checked. -/
import Derived.Test.YtdnclnacneakbaaGreatDoorL0
set_option linter.unusedVariables false
set_option linter.unusedSimpArgs false
set_option linter.unusedSectionVars false
set_option maxRecDepth 100000
namespace Go.Am
open Proofs
noncomputable def p17_88 : Piece := Piece.mk [.agg [.int .i64 2, .str [], .int .i64 0, .int .i64 0, .slice 10276 0 1 1 5]] 10549
  [(10049, .cells [.int .i64 9, .str [105, 110, 116], .int .i64 0, .int .i64 0, .nilslice]),
  (10086, .cells [.int .i64 9, .str [105, 110, 116], .int .i64 0, .int .i64 0, .nilslice]),
  (10102, .cells [.int .i64 7, .str [118, 49], .int .i64 0, .int .i64 0, .slice 10049 0 1 1 5, .int .i64 7, .str [118, 50], .int .i64 0, .int .i64 0, .slice 10086 0 1 1 5]),
  (10183, .cells [.int .i64 20, .str [118, 49], .int .i64 0, .int .i64 0, .nilslice, .int .i64 24, .str [54], .int .i64 0, .int .i64 0, .nilslice]),
  (10210, .cells [.int .i64 29, .str [43], .int .i64 0, .int .i64 0, .slice 10183 0 2 2 5, .int .i64 20, .str [118, 50], .int .i64 0, .int .i64 0, .nilslice]),
  (10219, .cells [.int .i64 29, .str [62], .int .i64 0, .int .i64 0, .slice 10210 0 2 2 5]),
  (10236, .cells [.int .i64 17, .str [], .int .i64 0, .int .i64 0, .slice 10219 0 1 1 5]),
  (10255, .cells [.int .i64 6, .str [], .int .i64 0, .int .i64 0, .slice 10102 0 2 2 5, .int .i64 9, .str [98, 111, 111, 108], .int .i64 0, .int .i64 0, .nilslice, .int .i64 11, .str [], .int .i64 0, .int .i64 0, .slice 10236 0 1 1 5]),
  (10276, .cells [.int .i64 5, .str [102], .int .i64 0, .int .i64 0, .slice 10255 0 3 3 5])]
  (.tuple [.agg [.slice 10885 0 3 3 4, .slice 10784 0 15 15 1], .nilslice, .int .i64 0]) 10972 []
  [(10784, .cells [.int .i64 (-1), .int .i64 0, .int .i64 (-1), .int .i64 1, .int .i64 (-1), .int .i64 2, .int .i64 (-1), .int .i64 (-1), .int .i64 (-1), .int .i64 (-1), .int .i64 (-1), .int .i64 (-1), .int .i64 1, .int .i64 (-1), .int .i64 2]),
  (10885, .cells [.int .i64 2, .str [102], .int .i64 1, .int .i64 (-1), .int .i64 3, .str [118, 49], .int .i64 3, .int .i64 1, .int .i64 3, .str [118, 50], .int .i64 5, .int .i64 1])]
theorem p17_88_run : pieceRun (runWith []) 88 p17_88 = true := by kernel_rfl
theorem p17_88_ok : CallOk Tryz.prog (fun f' xs H => if f' = 88 then piecePrim p17_88 xs H else none) :=
  piece_ok (by
    intro x hx
    simp only [List.mem_cons, List.not_mem_nil, or_false] at hx
    ) p17_88_run
noncomputable def p18_90 : Piece := Piece.mk [.agg [.int .i64 2, .str [], .int .i64 0, .int .i64 0, .slice 10276 0 1 1 5]] 11020
  [(10049, .cells [.int .i64 9, .str [105, 110, 116], .int .i64 0, .int .i64 0, .nilslice]),
  (10086, .cells [.int .i64 9, .str [105, 110, 116], .int .i64 0, .int .i64 0, .nilslice]),
  (10102, .cells [.int .i64 7, .str [118, 49], .int .i64 0, .int .i64 0, .slice 10049 0 1 1 5, .int .i64 7, .str [118, 50], .int .i64 0, .int .i64 0, .slice 10086 0 1 1 5]),
  (10183, .cells [.int .i64 20, .str [118, 49], .int .i64 0, .int .i64 0, .nilslice, .int .i64 24, .str [54], .int .i64 0, .int .i64 0, .nilslice]),
  (10210, .cells [.int .i64 29, .str [43], .int .i64 0, .int .i64 0, .slice 10183 0 2 2 5, .int .i64 20, .str [118, 50], .int .i64 0, .int .i64 0, .nilslice]),
  (10219, .cells [.int .i64 29, .str [62], .int .i64 0, .int .i64 0, .slice 10210 0 2 2 5]),
  (10236, .cells [.int .i64 17, .str [], .int .i64 0, .int .i64 0, .slice 10219 0 1 1 5]),
  (10255, .cells [.int .i64 6, .str [], .int .i64 0, .int .i64 0, .slice 10102 0 2 2 5, .int .i64 9, .str [98, 111, 111, 108], .int .i64 0, .int .i64 0, .nilslice, .int .i64 11, .str [], .int .i64 0, .int .i64 0, .slice 10236 0 1 1 5]),
  (10276, .cells [.int .i64 5, .str [102], .int .i64 0, .int .i64 0, .slice 10255 0 3 3 5])]
  (.tuple [.slice 11964 0 13 13 8, .int .i64 0]) 11965 []
  [(11964, .cells [.int .i64 0, .int .i64 1, .int .i64 0, .int .i64 2, .int .i64 0, .str [], .int .i64 0, .int .i64 0, .int .i64 0, .int .i64 3, .int .i64 0, .int .i64 1, .int .i64 0, .str [], .int .i64 0, .int .i64 0, .int .i64 0, .int .i64 5, .int .i64 0, .int .i64 1, .int .i64 0, .str [], .int .i64 0, .int .i64 0, .int .i64 1, .int .i64 10, .int .i64 1, .int .i64 0, .int .i64 0, .str [], .int .i64 0, .int .i64 0, .int .i64 0, .int .i64 11, .int .i64 0, .int .i64 1, .int .i64 0, .str [], .int .i64 0, .int .i64 0, .int .i64 0, .int .i64 14, .int .i64 0, .int .i64 1, .int .i64 0, .str [], .int .i64 0, .int .i64 0, .int .i64 0, .int .i64 10, .int .i64 0, .int .i64 2, .int .i64 0, .str [], .int .i64 0, .int .i64 0, .int .i64 0, .int .i64 12, .int .i64 0, .int .i64 1, .int .i64 0, .str [], .int .i64 0, .int .i64 0, .int .i64 0, .int .i64 13, .int .i64 0, .int .i64 1, .int .i64 0, .str [], .int .i64 0, .int .i64 0, .int .i64 0, .int .i64 11, .int .i64 0, .int .i64 1, .int .i64 0, .str [], .int .i64 0, .int .i64 0, .int .i64 1, .int .i64 12, .int .i64 3, .int .i64 0, .int .i64 0, .str [], .int .i64 0, .int .i64 0, .int .i64 0, .int .i64 13, .int .i64 0, .int .i64 1, .int .i64 0, .str [], .int .i64 0, .int .i64 0, .int .i64 1, .int .i64 14, .int .i64 5, .int .i64 0, .int .i64 0, .str [], .int .i64 0, .int .i64 0])]
theorem p18_90_run : pieceRun (runWith []) 90 p18_90 = true := by kernel_rfl
theorem p18_90_ok : CallOk Tryz.prog (fun f' xs H => if f' = 90 then piecePrim p18_90 xs H else none) :=
  piece_ok (by
    intro x hx
    simp only [List.mem_cons, List.not_mem_nil, or_false] at hx
    ) p18_90_run
noncomputable def p19_91 : Piece := Piece.mk [.int .i64 15, .slice 11964 0 13 13 8] 11965
  [(11964, .cells [.int .i64 0, .int .i64 1, .int .i64 0, .int .i64 2, .int .i64 0, .str [], .int .i64 0, .int .i64 0, .int .i64 0, .int .i64 3, .int .i64 0, .int .i64 1, .int .i64 0, .str [], .int .i64 0, .int .i64 0, .int .i64 0, .int .i64 5, .int .i64 0, .int .i64 1, .int .i64 0, .str [], .int .i64 0, .int .i64 0, .int .i64 1, .int .i64 10, .int .i64 1, .int .i64 0, .int .i64 0, .str [], .int .i64 0, .int .i64 0, .int .i64 0, .int .i64 11, .int .i64 0, .int .i64 1, .int .i64 0, .str [], .int .i64 0, .int .i64 0, .int .i64 0, .int .i64 14, .int .i64 0, .int .i64 1, .int .i64 0, .str [], .int .i64 0, .int .i64 0, .int .i64 0, .int .i64 10, .int .i64 0, .int .i64 2, .int .i64 0, .str [], .int .i64 0, .int .i64 0, .int .i64 0, .int .i64 12, .int .i64 0, .int .i64 1, .int .i64 0, .str [], .int .i64 0, .int .i64 0, .int .i64 0, .int .i64 13, .int .i64 0, .int .i64 1, .int .i64 0, .str [], .int .i64 0, .int .i64 0, .int .i64 0, .int .i64 11, .int .i64 0, .int .i64 1, .int .i64 0, .str [], .int .i64 0, .int .i64 0, .int .i64 1, .int .i64 12, .int .i64 3, .int .i64 0, .int .i64 0, .str [], .int .i64 0, .int .i64 0, .int .i64 0, .int .i64 13, .int .i64 0, .int .i64 1, .int .i64 0, .str [], .int .i64 0, .int .i64 0, .int .i64 1, .int .i64 14, .int .i64 5, .int .i64 0, .int .i64 0, .str [], .int .i64 0, .int .i64 0])]
  (.tuple [.slice 12024 0 15 15 3, .nilslice, .int .i64 0]) 12268 []
  [(12024, .cells [.int .i64 0, .int .i64 0, .str [], .int .i64 2, .int .i64 0, .str [], .int .i64 0, .int .i64 0, .str [], .int .i64 1, .int .i64 0, .str [], .int .i64 0, .int .i64 0, .str [], .int .i64 1, .int .i64 0, .str [], .int .i64 0, .int .i64 0, .str [], .int .i64 0, .int .i64 0, .str [], .int .i64 0, .int .i64 0, .str [], .int .i64 0, .int .i64 0, .str [], .int .i64 2, .int .i64 0, .str [], .int .i64 1, .int .i64 0, .str [], .int .i64 1, .int .i64 0, .str [], .int .i64 1, .int .i64 0, .str [], .int .i64 1, .int .i64 0, .str []])]
theorem p19_91_run : pieceRun (runWith []) 91 p19_91 = true := by kernel_rfl
theorem p19_91_ok : CallOk Tryz.prog (fun f' xs H => if f' = 91 then piecePrim p19_91 xs H else none) :=
  piece_ok (by
    intro x hx
    simp only [List.mem_cons, List.not_mem_nil, or_false] at hx
    ) p19_91_run
end Go.Am
