/-
  DERIVED. GIVEN WITH THE SEED: THE CARDS: each row of YtdnclnacneakbaaGreatDoorRows.lean that lists a variable, with what it lists TIED to the program's text (the seventh form; the later family's looks); each row that meets fmt, with fmt's text TOLD by the authors' own Lean function (tested against real Go, not proved from fmt's source: count such statements apart). THE CARD IS WHAT COUNTS. Prove the row's statement (the work); the ties are given (YtdnclnacneakbaaGreatDoorTie.lean); close each card by the builder's one call (the guide's Derived/Test/ToyasCard.lean, 'card_holds'). Laid BY PROGRAM, IN A SANDBOX (cutbox-door.mjs). By AI agents, Wed Nov 11 2026. No macro, syntax, notation, axiom, sorry.
-/
import Derived.Test.YtdnclnacneakbaaGreatDoorRows
import GoSem.ClaimSeven
namespace Go.Proofs.YtdnclnacneakbaaGreatDoor
namespace Rows

/-- THE TIED CARD OF 'assessorlaw36.NormalizeLiterals'. -/
def normalizeLiteralsCard : Claim7 := { stood := { row := normalizeLiteralsRow, standIns := [], harness := (true, "5e1e505243a8f7c7c703c5b78ff96ba818052054b5f24f6f290669caaa89c5f2"), looks := true }, kinds := [], alts := [], laidByText := true, laidKinds := [.data, .data, .data, .sentinel, .sentinel], laidTests := true, laidLooks := .later }
def NormalizeLiteralsCardSaid : Prop := Claim7.holds Tryz.pinned (.plain (OpenSpec.ofChange normalizeLiteralsSpec)) normalizeLiteralsCard

/-- THE SECOND FORM's CARD OF 'assessorlaw36.NormalizeLiterals'. -/
def normalizeLiteralsUptoCard : Claim7 := { stood := { row := normalizeLiteralsUptoRow, standIns := [], harness := (true, "5e1e505243a8f7c7c703c5b78ff96ba818052054b5f24f6f290669caaa89c5f2"), looks := true }, kinds := [], alts := [], laidByText := true, laidKinds := [.data, .data, .data, .sentinel, .sentinel], laidTests := true, laidLooks := .later }
def NormalizeLiteralsUptoCardSaid : Prop := Claim7.holds Tryz.pinned (.plain (OpenSpec.upto normalizeLiteralsSpec)) normalizeLiteralsUptoCard
end Rows
end Go.Proofs.YtdnclnacneakbaaGreatDoor
