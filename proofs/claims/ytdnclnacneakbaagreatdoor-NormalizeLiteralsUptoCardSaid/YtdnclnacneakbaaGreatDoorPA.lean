/- A part of Awake's run, checked. -/
import Derived.Test.YtdnclnacneakbaaGreatDoorL0
set_option linter.unusedVariables false
set_option linter.unusedSimpArgs false
set_option linter.unusedSectionVars false
set_option maxRecDepth 100000
namespace Go.Am
open Proofs
noncomputable def p0_65 : Piece := Piece.mk [.str [112, 114, 111, 99, 32, 102, 40, 120, 58, 32, 105, 110, 116, 44, 32, 121, 58, 32, 105, 110, 116, 41, 58, 32, 98, 111, 111, 108, 32, 123, 32, 114, 101, 116, 117, 114, 110, 32, 120, 32, 43, 32, 50, 32, 42, 32, 51, 32, 62, 32, 49, 32, 42, 32, 121, 59, 32, 125]] 2
  []
  (.tuple [.agg [.int .i64 2, .str [], .int .i64 0, .int .i64 58, .slice 379 0 1 1 5], .slice 523 0 0 0 5, .int .i64 0]) 524 []
  [(198, .cells [.int .i64 9, .str [105, 110, 116], .int .i64 10, .int .i64 13, .nilslice]),
  (219, .cells [.int .i64 9, .str [105, 110, 116], .int .i64 18, .int .i64 21, .nilslice]),
  (223, .cells [.int .i64 7, .str [120], .int .i64 7, .int .i64 13, .slice 198 0 1 1 5, .int .i64 7, .str [121], .int .i64 15, .int .i64 21, .slice 219 0 1 1 5]),
  (302, .cells [.int .i64 24, .str [50], .int .i64 42, .int .i64 43, .nilslice, .int .i64 24, .str [51], .int .i64 46, .int .i64 47, .nilslice]),
  (308, .cells [.int .i64 20, .str [120], .int .i64 38, .int .i64 39, .nilslice, .int .i64 29, .str [42], .int .i64 42, .int .i64 47, .slice 302 0 2 2 5]),
  (344, .cells [.int .i64 24, .str [49], .int .i64 50, .int .i64 51, .nilslice, .int .i64 20, .str [121], .int .i64 54, .int .i64 55, .nilslice]),
  (353, .cells [.int .i64 29, .str [43], .int .i64 38, .int .i64 47, .slice 308 0 2 2 5, .int .i64 29, .str [42], .int .i64 50, .int .i64 55, .slice 344 0 2 2 5]),
  (364, .cells [.int .i64 29, .str [62], .int .i64 38, .int .i64 55, .slice 353 0 2 2 5]),
  (368, .cells [.int .i64 17, .str [], .int .i64 31, .int .i64 56, .slice 364 0 1 1 5]),
  (375, .cells [.int .i64 6, .str [], .int .i64 6, .int .i64 22, .slice 223 0 2 2 5, .int .i64 9, .str [98, 111, 111, 108], .int .i64 24, .int .i64 28, .nilslice, .int .i64 11, .str [], .int .i64 29, .int .i64 58, .slice 368 0 1 1 5]),
  (379, .cells [.int .i64 5, .str [102], .int .i64 0, .int .i64 58, .slice 375 0 3 3 5]),
  (523, .cells [])]
theorem p0_65_run : pieceRun (runWith []) 65 p0_65 = true := by kernel_rfl
theorem p0_65_ok : CallOk Tryz.prog (fun f' xs H => if f' = 65 then piecePrim p0_65 xs H else none) :=
  piece_ok (by
    intro x hx
    simp only [List.mem_cons, List.not_mem_nil, or_false] at hx
    ) p0_65_run
end Go.Am
