/-
  DERIVED. GIVEN WITH THE SEED: THE CARDS: each row of YthalhlobmbedhaaDoorRows.lean that lists a variable, with what it lists TIED to the program's text (the seventh form; the later family's looks); each row that meets fmt, with fmt's text TOLD by the authors' own Lean function (tested against real Go, not proved from fmt's source: count such statements apart). THE CARD IS WHAT COUNTS. Prove the row's statement (the work); the ties are given (YthalhlobmbedhaaDoorTie.lean); close each card by the builder's one call (the guide's Derived/Test/ToyasCard.lean, 'card_holds'). Laid BY PROGRAM, IN A SANDBOX (cutbox-door.mjs). By AI agents, Wed Nov 11 2026. No macro, syntax, notation, axiom, sorry.
-/
import Derived.Test.YthalhlobmbedhaaDoorRows
import GoSem.ClaimSeven
namespace Go.Proofs.YthalhlobmbedhaaDoor
namespace Rows

/-- THE TIED CARD OF 'musterlaw09.RecordsRows'. -/
def recordsRowsCard : Claim7 := { stood := { row := recordsRowsRow, standIns := [], harness := (true, "e68330b2a032be48ac6625668facdb2439ecfd2893515f9b4cf8915dff467e56"), looks := true }, kinds := [], alts := [], laidByText := true, laidKinds := [.data, .data, .data, .data, .sentinel, .sentinel, .pinned], laidTests := true, laidLooks := .later }
def RecordsRowsCardSaid : Prop := Claim7.holds Tryd.pinned (.plain (OpenSpec.ofChange recordsRowsSpec)) recordsRowsCard

/-- THE SECOND FORM's CARD OF 'musterlaw09.RecordsRows'. -/
def recordsRowsUptoCard : Claim7 := { stood := { row := recordsRowsUptoRow, standIns := [], harness := (true, "e68330b2a032be48ac6625668facdb2439ecfd2893515f9b4cf8915dff467e56"), looks := true }, kinds := [], alts := [], laidByText := true, laidKinds := [.data, .data, .data, .data, .sentinel, .sentinel, .pinned], laidTests := true, laidLooks := .later }
def RecordsRowsUptoCardSaid : Prop := Claim7.holds Tryd.pinned (.plain (OpenSpec.upto recordsRowsSpec)) recordsRowsUptoCard
end Rows
end Go.Proofs.YthalhlobmbedhaaDoor
