/-
  DERIVED. GIVEN WITH THE SEED: THE CARDS: each row of YtdnbaliibiginaaGreatDoorRows.lean that lists a variable, with what it lists TIED to the program's text (the seventh form; the later family's looks); each row that meets fmt, with fmt's text TOLD by the authors' own Lean function (tested against real Go, not proved from fmt's source: count such statements apart). THE CARD IS WHAT COUNTS. Prove the row's statement (the work); the ties are given (YtdnbaliibiginaaGreatDoorTie.lean); close each card by the builder's one call (the guide's Derived/Test/ToyasCard.lean, 'card_holds'). Laid BY PROGRAM, IN A SANDBOX (cutbox-door.mjs). By AI agents, Wed Nov 11 2026. No macro, syntax, notation, axiom, sorry.
-/
import Derived.Test.YtdnbaliibiginaaGreatDoorRows
import GoSem.ClaimSeven
namespace Go.Proofs.YtdnbaliibiginaaGreatDoor
namespace Rows

/-- THE TIED CARD OF 'boltinglaw08.WriteLegal'. -/
def writeLegalCard : Claim7 := { stood := { row := writeLegalRow, standIns := [], harness := (true, "b6ec684179c425081179169c32ccda52acac9e57131d93ed9039c5b5d38c26e8"), looks := true }, kinds := [], alts := [], laidByText := true, laidKinds := [.data, .pinned], laidTests := true, laidLooks := .later }
def WriteLegalCardSaid : Prop := Claim7.holds Tryz.pinned (.plain (OpenSpec.ofChange writeLegalSpec)) writeLegalCard

/-- THE TIED CARD OF 'boltinglaw06.TokenCuts'. -/
def tokenCutsCard : Claim7 := { stood := { row := tokenCutsRow, standIns := [], harness := (true, "b6ec684179c425081179169c32ccda52acac9e57131d93ed9039c5b5d38c26e8"), looks := true }, kinds := [], alts := [], laidByText := true, laidKinds := [.data, .data, .data, .sentinel, .sentinel], laidTests := true, laidLooks := .later }
def TokenCutsCardSaid : Prop := Claim7.holds Tryz.pinned (.plain (OpenSpec.ofChange tokenCutsSpec)) tokenCutsCard

/-- THE TIED CARD OF 'boltinglaw06.TokenIns'. -/
def tokenInsCard : Claim7 := { stood := { row := tokenInsRow, standIns := [], harness := (true, "b6ec684179c425081179169c32ccda52acac9e57131d93ed9039c5b5d38c26e8"), looks := true }, kinds := [], alts := [], laidByText := true, laidKinds := [.data, .data, .data, .sentinel, .sentinel], laidTests := true, laidLooks := .later }
def TokenInsCardSaid : Prop := Claim7.holds Tryz.pinned (.plain (OpenSpec.ofChange tokenInsSpec)) tokenInsCard

/-- THE SECOND FORM's CARD OF 'boltinglaw08.WriteLegal'. -/
def writeLegalUptoCard : Claim7 := { stood := { row := writeLegalUptoRow, standIns := [], harness := (true, "b6ec684179c425081179169c32ccda52acac9e57131d93ed9039c5b5d38c26e8"), looks := true }, kinds := [], alts := [], laidByText := true, laidKinds := [.data, .pinned], laidTests := true, laidLooks := .later }
def WriteLegalUptoCardSaid : Prop := Claim7.holds Tryz.pinned (.plain (OpenSpec.upto writeLegalSpec)) writeLegalUptoCard

/-- THE SECOND FORM's CARD OF 'boltinglaw06.TokenCuts'. -/
def tokenCutsUptoCard : Claim7 := { stood := { row := tokenCutsUptoRow, standIns := [], harness := (true, "b6ec684179c425081179169c32ccda52acac9e57131d93ed9039c5b5d38c26e8"), looks := true }, kinds := [], alts := [], laidByText := true, laidKinds := [.data, .data, .data, .sentinel, .sentinel], laidTests := true, laidLooks := .later }
def TokenCutsUptoCardSaid : Prop := Claim7.holds Tryz.pinned (.plain (OpenSpec.upto tokenCutsSpec)) tokenCutsUptoCard

/-- THE SECOND FORM's CARD OF 'boltinglaw06.TokenIns'. -/
def tokenInsUptoCard : Claim7 := { stood := { row := tokenInsUptoRow, standIns := [], harness := (true, "b6ec684179c425081179169c32ccda52acac9e57131d93ed9039c5b5d38c26e8"), looks := true }, kinds := [], alts := [], laidByText := true, laidKinds := [.data, .data, .data, .sentinel, .sentinel], laidTests := true, laidLooks := .later }
def TokenInsUptoCardSaid : Prop := Claim7.holds Tryz.pinned (.plain (OpenSpec.upto tokenInsSpec)) tokenInsUptoCard
end Rows
end Go.Proofs.YtdnbaliibiginaaGreatDoor
