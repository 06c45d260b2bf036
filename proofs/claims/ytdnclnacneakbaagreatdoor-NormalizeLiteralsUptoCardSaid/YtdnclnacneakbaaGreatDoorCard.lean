/- The law NormalizeLiterals answers true, changes no argument and tells no more than its card says. Conditions: those of the given statement in its second form (the arguments are together of bulk at most 1048576); no further one. -/
import Derived.Deep.DeepHandedRow
import Derived.Deep.DeepWitnessRowRef
import Derived.LaidLaws
import Derived.OpenShut
import Derived.ProofKit
import Derived.Test.YtdnclnacneakbaaGreatDoorCards
import Derived.Test.YtdnclnacneakbaaGreatDoorTie
import Derived.WalkKit
import Derived.Test.YtdnclnacneakbaaGreatDoorC1
import Derived.Test.YtdnclnacneakbaaGreatDoorC2
set_option linter.unusedVariables false
set_option linter.unusedSimpArgs false
set_option linter.unusedSectionVars false
namespace Go.Proofs.YtdnclnacneakbaaGreatDoor.law
open Go.ChangeShapes Go.WideShapes Go.ChangeAt Go.RowKit
set_option linter.unusedVariables false
def synS : ByteArray := { data := #[105, 110, 118, 97, 108, 105, 100, 32, 115, 121, 110, 116, 97, 120] }
def rngS : ByteArray := { data := #[118, 97, 108, 117, 101, 32, 111, 117, 116, 32, 111, 102, 32, 114, 97, 110, 103, 101] }
def numsOf {H : Type} : DataW H → Array Value
  | .agg l => (l.map fun d => match d with | .lit (.int k n) => Value.int k n | _ => .nilIface).toArray
  | _ => #[]
noncomputable def low : Nat := (World.holding Tryz.prog default ⟨#[], #[], []⟩).heap.size
noncomputable def putCells (h : Array Obj) (g : Nat) (cs : Array Value) : Array Obj := h.modify g fun
  | .cells _ t frozen => .cells cs t frozen
  | o => o
noncomputable def laidWorld (os : Os) : World :=
  let w0 := World.holding Tryz.prog os ⟨#[.cells #[.string synS] 345, .cells #[.string rngS] 345], #[], []⟩
  { w0 with heap := putCells (putCells (putCells (putCells (putCells w0.heap 1 #[.iface 343 (.pointer (some ⟨low, 0, none⟩))]) 2 #[.iface 343 (.pointer (some ⟨low + 1, 0, none⟩))])
      3 (numsOf (H := Unit) Rows.laid_internal_strconv_uint64pow10)) 4 (numsOf (H := Unit) Rows.laid_math_bits_deBruijn32tab)) 5 (numsOf (H := Unit) Rows.laid_math_bits_deBruijn64tab) }
noncomputable abbrev wargs : Array Value := #[.int .i64 0, .int .i64 0, .agg #[.int .i64 0, .string ⟨#[]⟩, .int .i64 0, .int .i64 0, .slice none 0 0]]
set_option maxRecDepth 1000000 in
theorem laid_met (os : Os) : laidMet Tryz.prog Rows.normalizeLiteralsUptoRow.laid ((laidWorld os).forCall (fun _ _ => 0) ⟨#[], wargs, []⟩).memory :=
  laidMet_of_run' 8 (by kernel_rfl) (by kernel_rfl)
theorem reads (os : Os) {H : Type} (enc : TypeId × Value → H) : ∃ places, DataW.whole enc Tryz.prog ((laidWorld os).forCall (fun _ _ => 0) ⟨#[], wargs, []⟩).memory Tryz.f3.params.toList Rows.normalizeLiteralsSpec.vars false wargs.toList 8 = some ([.lit (.int .i64 0), .lit (.int .i64 0), .agg [.lit (.int .i64 0), .lit (.string []), .lit (.int .i64 0), .lit (.int .i64 0), .nil]], [], places) :=
  ⟨[], by kernel_rfl⟩
set_option maxRecDepth 100000 in
theorem liftedUpto (os : Os) (started : os.Started) (H : Type) (enc : TypeId × Value → H) (F : Stop.Interp) :
    ReturnsInHanded {} Tryz.checked os 3 .any ((Rows.OpenSpec.upto Rows.normalizeLiteralsSpec).preRow enc Tryz.prog Tryz.f3 Rows.normalizeLiteralsUptoRow.domain false Rows.normalizeLiteralsUptoRow.laid) (((Rows.OpenSpec.upto Rows.normalizeLiteralsSpec).at F).post enc Tryz.prog Tryz.f3 false true false false) := by
  obtain ⟨places, hx⟩ := reads os enc
  refine returnsInHanded_of_row (C := Tryz.checked) (s := Rows.OpenSpec.upto Rows.normalizeLiteralsSpec) own started (by kernel_rfl) Tryz.func3
    (witness_row_atRef (enc := enc) (C := Tryz.checked) false (laidWorld os) wargs rfl (by kernel_rfl) (by kernel_rfl) (by kernel_rfl)
      (OpenSpec.preRow_of_cond 8 hx (by kernel_rfl) (fun k hk => by cases hk; kernel_rfl) (by kernel_rfl) (laid_met os))) ?_
  intro W base args ds gs before hval hW _ hcond _ hL hsh _
  exact contract H enc W base args ds gs before hval hW hL hsh (hcond _ rfl)
theorem saidUpto : Rows.NormalizeLiteralsUptoSaid :=
  OpenClaim.holds_of_cond 3 Tryz.f3 rfl rfl rfl rfl rfl rfl rfl ⟨rfl, rfl, rfl, rfl, rfl⟩ rfl rfl rfl rfl rfl (by kernel_rfl) Tryz.func3 closed
    (of_decide_eq_true (by kernel_rfl)) (by unfold Func.isWrapper; first | (rw [if_pos (by decide +kernel)]; kernel_rfl) | (rw [if_neg (by decide +kernel)]; exact ⟨rfl, rfl⟩))
    (fun os started H enc _ F => by rw [OpenClaim.pre_eq_preRow]; exact liftedUpto os started H enc F)
theorem plain (f : FuncId) (fn : Func) (hf : Tryz.pinned.checked.prog.funcNamed "assessor/assessorlaw36.NormalizeLiterals" = some f) (hfn : Tryz.pinned.checked.prog.funcs[f]? = some fn) :
    true = Tryz.pinned.checked.prog.looks [] ∧ ∀ (j : Nat) t, fn.params[j]? = some t → Tryz.pinned.checked.prog.wantsStandIn t = false := by
  obtain rfl : f = 3 := Option.some.inj ((show Tryz.prog.funcNamed "assessor/assessorlaw36.NormalizeLiterals" = some 3 by kernel_rfl).symm.trans hf) |>.symm
  obtain rfl : fn = Tryz.f3 := (Option.some.inj (Tryz.func3.symm.trans hfn)).symm
  refine ⟨by kernel_rfl, fun j t ht => ?_⟩
  rw [Tryz.params3] at ht
  have h3 : t = 3 ∨ t = 24 := by simpa [or_assoc] using Array.mem_of_getElem? ht
  rcases h3 with rfl | rfl
  · exact (show Tryz.prog.wantsStandIn 3 = false by kernel_rfl)
  · exact (show Tryz.prog.wantsStandIn 24 = false by kernel_rfl)
theorem goes0 : false = Rows.normalizeLiteralsUptoRow.goesBy Tryz.pinned.checked.prog := (goes_none noGo _ rfl).symm
theorem cardUpto : Rows.NormalizeLiteralsUptoCardSaid :=
  Claim7.holds_tied_plain_at .later [] _ _ _ _ saidUpto (fun _ h => by cases h) (by kernel_rfl) (fun _ h => by cases h) normalizeLiteralsUpto_row_tie rfl ⟨rfl, rfl⟩ (by kernel_rfl) rfl plain goes0
end Go.Proofs.YtdnclnacneakbaaGreatDoor.law
namespace Go.Proofs.YtdnclnacneakbaaGreatDoor
theorem normalizeLiterals_holds : Rows.NormalizeLiteralsUptoCardSaid := law.cardUpto
#print axioms normalizeLiterals_holds
end Go.Proofs.YtdnclnacneakbaaGreatDoor
