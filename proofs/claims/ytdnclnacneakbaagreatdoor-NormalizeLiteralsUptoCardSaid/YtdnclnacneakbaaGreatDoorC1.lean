/- The closure of the law's function. -/
import Derived.JoinedCond
import Derived.KernelRfl
import Derived.Test.YtdnclnacneakbaaGreatDoorCards
set_option linter.unusedVariables false
set_option linter.unusedSimpArgs false
set_option linter.unusedSectionVars false
namespace Go.Proofs.YtdnclnacneakbaaGreatDoor.law
set_option maxRecDepth 100000
theorem c1 : Rows.normalizeLiteralsUptoRow.wf (OpenSpec.ofChange (Rows.OpenSpec.upto Rows.normalizeLiteralsSpec).bare) = true := by kernel_rfl
theorem c2 : laidOutB Tryz.prog = true := by kernel_rfl
theorem c3 : mapsRowed Tryz.prog = true := by kernel_rfl
theorem c4 : Tryz.f3.params.all (Tryz.prog.readableRec ·) = true := by kernel_rfl
theorem c5 : namedTie Tryz.prog Rows.normalizeLiteralsUptoRow.named (Rows.OpenSpec.upto Rows.normalizeLiteralsSpec).bare.vars = true := by kernel_rfl
theorem c6 : (Rows.normalizeLiteralsUptoRow.stops == []) = true := by kernel_rfl
theorem c7 : (Tryz.prog.stops == []) = true := by kernel_rfl
theorem c8 : (Rows.normalizeLiteralsUptoRow.knobs == []) = true := by kernel_rfl
theorem c9 : (Tryz.prog.stopKnobs == []) = true := by kernel_rfl
theorem c10 : (Rows.normalizeLiteralsUptoRow.inPlace == Tryz.prog.inPlace 3) = true := by kernel_rfl
theorem c11 : (Rows.normalizeLiteralsUptoRow.unfollowed == Tryz.prog.unfollowed 3) = true := by kernel_rfl
theorem c12 : (Rows.normalizeLiteralsUptoRow.recurses == Tryz.prog.recurses 3) = true := by
  unfold Program.recurses
  rw [show Tryz.prog.unfollowed 3 = true from (beq_iff_eq.1 c11).symm]
  rfl
theorem c13 : (Rows.normalizeLiteralsUptoRow.named == Tryz.prog.varsNamed 3) = true := by kernel_rfl
theorem c14 : (Rows.normalizeLiteralsUptoRow.maps == (Tryz.f3.params.toList ++ (Rows.OpenSpec.upto Rows.normalizeLiteralsSpec).bare.plain.varTypes Tryz.prog).any (Tryz.prog.mapsRec ·)) = true := by kernel_rfl
theorem c15 : (Rows.normalizeLiteralsUptoRow.ifaces == (Tryz.f3.params.toList ++ (Rows.OpenSpec.upto Rows.normalizeLiteralsSpec).bare.plain.varTypes Tryz.prog).any (Tryz.prog.ifacesRec ·)) = true := by kernel_rfl
theorem c16 : (Rows.normalizeLiteralsUptoRow.mapsOut == Tryz.prog.mapsAmong Tryz.f3.resultTypes.toList) = true := by kernel_rfl
theorem c17 : (Rows.normalizeLiteralsUptoRow.loops == (Tryz.f3.params.toList ++ (Rows.OpenSpec.upto Rows.normalizeLiteralsSpec).bare.plain.varTypes Tryz.prog).any (Tryz.prog.loopsFrom ·)) = true := by kernel_rfl
theorem c18 : (Rows.normalizeLiteralsUptoRow.wideKeys == (Tryz.f3.params.toList ++ (Rows.OpenSpec.upto Rows.normalizeLiteralsSpec).bare.plain.varTypes Tryz.prog ++ Tryz.f3.resultTypes.toList).any (Tryz.prog.wideKeysFrom ·)) = true := by kernel_rfl
theorem c19 : (Rows.OpenSpec.upto Rows.normalizeLiteralsSpec).bare.vars.all (Tryz.prog.varReadable ·) = true := by kernel_rfl
theorem c20 : Tryz.f3.resultTypes.all (fun t => Tryz.prog.readableRec t && decide (t < Tryz.prog.types.size)) = true := by kernel_rfl
theorem c21 : (Rows.normalizeLiteralsUptoRow.ifacesOut == Tryz.f3.resultTypes.toList.any (Tryz.prog.ifacesRec ·)) = true := by kernel_rfl
theorem c22 : (Rows.normalizeLiteralsUptoRow.loopsOut == Tryz.f3.resultTypes.toList.any (Tryz.prog.loopsFrom ·)) = true := by kernel_rfl
theorem c23 : (Rows.normalizeLiteralsUptoRow.plainKeys == Tryz.prog.plainKeys) = true := by kernel_rfl
theorem c24 : Rows.normalizeLiteralsUptoRow.shortTexts.isNone = true := by kernel_rfl
theorem c25 : Tryz.prog.stopsHeard = true := by kernel_rfl
theorem c26 : Tryz.prog.mayEnter = true := by kernel_rfl
theorem c27 : (Rows.normalizeLiteralsUptoRow.lifted == Tryz.prog.liftsFinal) = true := by kernel_rfl
theorem c28 : (Tryz.prog.make == some Rows.normalizeLiteralsUptoRow.make) = true := by kernel_rfl
theorem c29 : (Rows.normalizeLiteralsUptoRow.kinds == (if Rows.normalizeLiteralsUptoRow.domain.isEmpty then [] else Tryz.f3.params.toList.map fun t => match Tryz.prog.underlying t with | some (.int k) => some k | _ => none)) = true := by kernel_rfl
theorem c30 : (Rows.normalizeLiteralsUptoRow.pinned == Rows.normalizeLiteralsUptoRow.pinnedBy) = true := by kernel_rfl
theorem c31 : (Rows.normalizeLiteralsUptoRow.veiled == (Tryz.f3.params.toList ++ (Rows.OpenSpec.upto Rows.normalizeLiteralsSpec).bare.plain.varTypes Tryz.prog ++ Tryz.f3.resultTypes.toList).any (Tryz.prog.veiledRec ·)) = true := by kernel_rfl
theorem c32 : Rows.normalizeLiteralsUptoRow.veiledFits Tryz.prog Tryz.f3.params.toList (Tryz.f3.params.toList ++ (Rows.OpenSpec.upto Rows.normalizeLiteralsSpec).bare.plain.varTypes Tryz.prog ++ Tryz.f3.resultTypes.toList) = true := by kernel_rfl
theorem closed : joinedFacts Tryz.prog 3 Tryz.f3 (Rows.OpenSpec.upto Rows.normalizeLiteralsSpec).bare Rows.normalizeLiteralsUptoRow = true := by
  unfold joinedFacts
  exact (Bool.and_eq_true_iff.2 ⟨(Bool.and_eq_true_iff.2 ⟨(Bool.and_eq_true_iff.2 ⟨(Bool.and_eq_true_iff.2 ⟨(Bool.and_eq_true_iff.2 ⟨(Bool.and_eq_true_iff.2 ⟨(Bool.and_eq_true_iff.2 ⟨(Bool.and_eq_true_iff.2 ⟨(Bool.and_eq_true_iff.2 ⟨(Bool.and_eq_true_iff.2 ⟨(Bool.and_eq_true_iff.2 ⟨(Bool.and_eq_true_iff.2 ⟨(Bool.and_eq_true_iff.2 ⟨(Bool.and_eq_true_iff.2 ⟨(Bool.and_eq_true_iff.2 ⟨(Bool.and_eq_true_iff.2 ⟨(Bool.and_eq_true_iff.2 ⟨(Bool.and_eq_true_iff.2 ⟨(Bool.and_eq_true_iff.2 ⟨(Bool.and_eq_true_iff.2 ⟨(Bool.and_eq_true_iff.2 ⟨(Bool.and_eq_true_iff.2 ⟨(Bool.and_eq_true_iff.2 ⟨(Bool.and_eq_true_iff.2 ⟨(Bool.and_eq_true_iff.2 ⟨(Bool.and_eq_true_iff.2 ⟨(Bool.and_eq_true_iff.2 ⟨(Bool.and_eq_true_iff.2 ⟨(Bool.and_eq_true_iff.2 ⟨(Bool.and_eq_true_iff.2 ⟨(Bool.and_eq_true_iff.2 ⟨c1, c2⟩), c3⟩), c4⟩), c5⟩), c6⟩), c7⟩), c8⟩), c9⟩), c10⟩), c11⟩), c12⟩), c13⟩), c14⟩), c15⟩), c16⟩), c17⟩), c18⟩), c19⟩), c20⟩), c21⟩), c22⟩), c23⟩), c24⟩), c25⟩), c26⟩), c27⟩), c28⟩), c29⟩), c30⟩), c31⟩), c32⟩)
end Go.Proofs.YtdnclnacneakbaaGreatDoor.law
