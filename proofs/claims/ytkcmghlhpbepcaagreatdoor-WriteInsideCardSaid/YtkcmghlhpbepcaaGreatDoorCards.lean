/-
  DERIVED. GIVEN WITH THE SEED: THE CARDS: each row of YtkcmghlhpbepcaaGreatDoorRows.lean that lists a variable, with what it lists TIED to the program's text (the seventh form; the later family's looks); each row that meets fmt, with fmt's text TOLD by the authors' own Lean function (tested against real Go, not proved from fmt's source: count such statements apart). THE CARD IS WHAT COUNTS. Prove the row's statement (the work); the ties are given (YtkcmghlhpbepcaaGreatDoorTie.lean); close each card by the builder's one call (the guide's Derived/Test/ToyasCard.lean, 'card_holds'). Laid BY PROGRAM, IN A SANDBOX (cutbox-door.mjs). By AI agents, Wed Nov 11 2026. No macro, syntax, notation, axiom, sorry.
-/
import Derived.Test.YtkcmghlhpbepcaaGreatDoorRows
import GoSem.ClaimSeven
namespace Go.Proofs.YtkcmghlhpbepcaaGreatDoor
namespace Rows

/-- THE TIED CARD OF 'boltinglaw08.WriteLegal'. -/
def writeLegalCard : Claim7 := { stood := { row := writeLegalRow, standIns := [], harness := (true, "9590332e374a9558e3683715433d23104236f9ed14e83e99957f19d5cefc6851"), looks := true }, kinds := [], alts := [], laidByText := true, laidKinds := [.data, .pinned], laidTests := true, laidLooks := .later }
def WriteLegalCardSaid : Prop := Claim7.holds Tryz.pinned (.plain (OpenSpec.ofChange writeLegalSpec)) writeLegalCard

/-- THE TIED CARD OF 'boltinglaw07.BuildTrees'. -/
def buildTreesCard : Claim7 := { stood := { row := buildTreesRow, standIns := [], harness := (true, "9590332e374a9558e3683715433d23104236f9ed14e83e99957f19d5cefc6851"), looks := true }, kinds := [], alts := [], laidByText := true, laidKinds := [.data, .data, .data, .data, .sentinel, .sentinel, .pinned], laidTests := true, laidLooks := .later }
def BuildTreesCardSaid : Prop := Claim7.holds Tryz.pinned (.plain (OpenSpec.ofChange buildTreesSpec)) buildTreesCard

/-- THE TIED CARD OF 'boltinglaw07.BuildParses'. -/
def buildParsesCard : Claim7 := { stood := { row := buildParsesRow, standIns := [], harness := (true, "9590332e374a9558e3683715433d23104236f9ed14e83e99957f19d5cefc6851"), looks := true }, kinds := [], alts := [], laidByText := true, laidKinds := [.data, .data, .data, .data, .sentinel, .sentinel, .pinned], laidTests := true, laidLooks := .later }
def BuildParsesCardSaid : Prop := Claim7.holds Tryz.pinned (.plain (OpenSpec.ofChange buildParsesSpec)) buildParsesCard

/-- THE TIED CARD OF 'boltinglaw07.BuildNested'. -/
def buildNestedCard : Claim7 := { stood := { row := buildNestedRow, standIns := [], harness := (true, "9590332e374a9558e3683715433d23104236f9ed14e83e99957f19d5cefc6851"), looks := true }, kinds := [], alts := [], laidByText := true, laidKinds := [.data, .data, .data, .data, .sentinel, .sentinel, .pinned], laidTests := true, laidLooks := .later }
def BuildNestedCardSaid : Prop := Claim7.holds Tryz.pinned (.plain (OpenSpec.ofChange buildNestedSpec)) buildNestedCard

/-- THE TIED CARD OF 'boltinglaw07.BuildBig'. -/
def buildBigCard : Claim7 := { stood := { row := buildBigRow, standIns := [], harness := (true, "9590332e374a9558e3683715433d23104236f9ed14e83e99957f19d5cefc6851"), looks := true }, kinds := [], alts := [], laidByText := true, laidKinds := [.data, .data, .data, .data, .sentinel, .sentinel, .pinned], laidTests := true, laidLooks := .later }
def BuildBigCardSaid : Prop := Claim7.holds Tryz.pinned (.plain (OpenSpec.ofChange buildBigSpec)) buildBigCard

/-- THE TIED CARD OF 'boltinglaw07.BuildIn'. -/
def buildInCard : Claim7 := { stood := { row := buildInRow, standIns := [], harness := (true, "9590332e374a9558e3683715433d23104236f9ed14e83e99957f19d5cefc6851"), looks := true }, kinds := [], alts := [], laidByText := true, laidKinds := [.data, .data, .data, .data, .sentinel, .sentinel, .pinned], laidTests := true, laidLooks := .later }
def BuildInCardSaid : Prop := Claim7.holds Tryz.pinned (.plain (OpenSpec.ofChange buildInSpec)) buildInCard

/-- THE TIED CARD OF 'boltinglaw07.BuildBelow'. -/
def buildBelowCard : Claim7 := { stood := { row := buildBelowRow, standIns := [], harness := (true, "9590332e374a9558e3683715433d23104236f9ed14e83e99957f19d5cefc6851"), looks := true }, kinds := [], alts := [], laidByText := true, laidKinds := [.data, .data, .data, .data, .sentinel, .sentinel, .pinned], laidTests := true, laidLooks := .later }
def BuildBelowCardSaid : Prop := Claim7.holds Tryz.pinned (.plain (OpenSpec.ofChange buildBelowSpec)) buildBelowCard

/-- THE TIED CARD OF 'boltinglaw07.BuildParts'. -/
def buildPartsCard : Claim7 := { stood := { row := buildPartsRow, standIns := [], harness := (true, "9590332e374a9558e3683715433d23104236f9ed14e83e99957f19d5cefc6851"), looks := true }, kinds := [], alts := [], laidByText := true, laidKinds := [.data, .data, .data, .data, .sentinel, .sentinel, .pinned], laidTests := true, laidLooks := .later }
def BuildPartsCardSaid : Prop := Claim7.holds Tryz.pinned (.plain (OpenSpec.ofChange buildPartsSpec)) buildPartsCard

/-- THE TIED CARD OF 'boltinglaw07.BuildRight'. -/
def buildRightCard : Claim7 := { stood := { row := buildRightRow, standIns := [], harness := (true, "9590332e374a9558e3683715433d23104236f9ed14e83e99957f19d5cefc6851"), looks := true }, kinds := [], alts := [], laidByText := true, laidKinds := [.data, .data, .data, .data, .sentinel, .sentinel, .pinned], laidTests := true, laidLooks := .later }
def BuildRightCardSaid : Prop := Claim7.holds Tryz.pinned (.plain (OpenSpec.ofChange buildRightSpec)) buildRightCard

/-- THE TIED CARD OF 'boltinglaw08.WriteBack'. -/
def writeBackCard : Claim7 := { stood := { row := writeBackRow, standIns := [], harness := (true, "9590332e374a9558e3683715433d23104236f9ed14e83e99957f19d5cefc6851"), looks := true }, kinds := [], alts := [], laidByText := true, laidKinds := [.data, .data, .data, .data, .sentinel, .sentinel, .pinned], laidTests := true, laidLooks := .later }
def WriteBackCardSaid : Prop := Claim7.holds Tryz.pinned (.plain (OpenSpec.ofChange writeBackSpec)) writeBackCard

/-- THE TIED CARD OF 'boltinglaw08.WriteStays'. -/
def writeStaysCard : Claim7 := { stood := { row := writeStaysRow, standIns := [], harness := (true, "9590332e374a9558e3683715433d23104236f9ed14e83e99957f19d5cefc6851"), looks := true }, kinds := [], alts := [], laidByText := true, laidKinds := [.data, .data, .data, .data, .sentinel, .sentinel, .pinned], laidTests := true, laidLooks := .later }
def WriteStaysCardSaid : Prop := Claim7.holds Tryz.pinned (.plain (OpenSpec.ofChange writeStaysSpec)) writeStaysCard

/-- THE TIED CARD OF 'boltinglaw08.WriteInside'. -/
def writeInsideCard : Claim7 := { stood := { row := writeInsideRow, standIns := [], harness := (true, "9590332e374a9558e3683715433d23104236f9ed14e83e99957f19d5cefc6851"), looks := true }, kinds := [], alts := [], laidByText := true, laidKinds := [.data, .data, .data, .data, .sentinel, .sentinel, .pinned], laidTests := true, laidLooks := .later }
def WriteInsideCardSaid : Prop := Claim7.holds Tryz.pinned (.plain (OpenSpec.ofChange writeInsideSpec)) writeInsideCard

/-- THE SECOND FORM's CARD OF 'boltinglaw08.WriteLegal'. -/
def writeLegalUptoCard : Claim7 := { stood := { row := writeLegalUptoRow, standIns := [], harness := (true, "9590332e374a9558e3683715433d23104236f9ed14e83e99957f19d5cefc6851"), looks := true }, kinds := [], alts := [], laidByText := true, laidKinds := [.data, .pinned], laidTests := true, laidLooks := .later }
def WriteLegalUptoCardSaid : Prop := Claim7.holds Tryz.pinned (.plain (OpenSpec.upto writeLegalSpec)) writeLegalUptoCard

/-- THE SECOND FORM's CARD OF 'boltinglaw07.BuildTrees'. -/
def buildTreesUptoCard : Claim7 := { stood := { row := buildTreesUptoRow, standIns := [], harness := (true, "9590332e374a9558e3683715433d23104236f9ed14e83e99957f19d5cefc6851"), looks := true }, kinds := [], alts := [], laidByText := true, laidKinds := [.data, .data, .data, .data, .sentinel, .sentinel, .pinned], laidTests := true, laidLooks := .later }
def BuildTreesUptoCardSaid : Prop := Claim7.holds Tryz.pinned (.plain (OpenSpec.upto buildTreesSpec)) buildTreesUptoCard

/-- THE SECOND FORM's CARD OF 'boltinglaw07.BuildParses'. -/
def buildParsesUptoCard : Claim7 := { stood := { row := buildParsesUptoRow, standIns := [], harness := (true, "9590332e374a9558e3683715433d23104236f9ed14e83e99957f19d5cefc6851"), looks := true }, kinds := [], alts := [], laidByText := true, laidKinds := [.data, .data, .data, .data, .sentinel, .sentinel, .pinned], laidTests := true, laidLooks := .later }
def BuildParsesUptoCardSaid : Prop := Claim7.holds Tryz.pinned (.plain (OpenSpec.upto buildParsesSpec)) buildParsesUptoCard

/-- THE SECOND FORM's CARD OF 'boltinglaw07.BuildNested'. -/
def buildNestedUptoCard : Claim7 := { stood := { row := buildNestedUptoRow, standIns := [], harness := (true, "9590332e374a9558e3683715433d23104236f9ed14e83e99957f19d5cefc6851"), looks := true }, kinds := [], alts := [], laidByText := true, laidKinds := [.data, .data, .data, .data, .sentinel, .sentinel, .pinned], laidTests := true, laidLooks := .later }
def BuildNestedUptoCardSaid : Prop := Claim7.holds Tryz.pinned (.plain (OpenSpec.upto buildNestedSpec)) buildNestedUptoCard

/-- THE SECOND FORM's CARD OF 'boltinglaw07.BuildBig'. -/
def buildBigUptoCard : Claim7 := { stood := { row := buildBigUptoRow, standIns := [], harness := (true, "9590332e374a9558e3683715433d23104236f9ed14e83e99957f19d5cefc6851"), looks := true }, kinds := [], alts := [], laidByText := true, laidKinds := [.data, .data, .data, .data, .sentinel, .sentinel, .pinned], laidTests := true, laidLooks := .later }
def BuildBigUptoCardSaid : Prop := Claim7.holds Tryz.pinned (.plain (OpenSpec.upto buildBigSpec)) buildBigUptoCard

/-- THE SECOND FORM's CARD OF 'boltinglaw07.BuildIn'. -/
def buildInUptoCard : Claim7 := { stood := { row := buildInUptoRow, standIns := [], harness := (true, "9590332e374a9558e3683715433d23104236f9ed14e83e99957f19d5cefc6851"), looks := true }, kinds := [], alts := [], laidByText := true, laidKinds := [.data, .data, .data, .data, .sentinel, .sentinel, .pinned], laidTests := true, laidLooks := .later }
def BuildInUptoCardSaid : Prop := Claim7.holds Tryz.pinned (.plain (OpenSpec.upto buildInSpec)) buildInUptoCard

/-- THE SECOND FORM's CARD OF 'boltinglaw07.BuildBelow'. -/
def buildBelowUptoCard : Claim7 := { stood := { row := buildBelowUptoRow, standIns := [], harness := (true, "9590332e374a9558e3683715433d23104236f9ed14e83e99957f19d5cefc6851"), looks := true }, kinds := [], alts := [], laidByText := true, laidKinds := [.data, .data, .data, .data, .sentinel, .sentinel, .pinned], laidTests := true, laidLooks := .later }
def BuildBelowUptoCardSaid : Prop := Claim7.holds Tryz.pinned (.plain (OpenSpec.upto buildBelowSpec)) buildBelowUptoCard

/-- THE SECOND FORM's CARD OF 'boltinglaw07.BuildParts'. -/
def buildPartsUptoCard : Claim7 := { stood := { row := buildPartsUptoRow, standIns := [], harness := (true, "9590332e374a9558e3683715433d23104236f9ed14e83e99957f19d5cefc6851"), looks := true }, kinds := [], alts := [], laidByText := true, laidKinds := [.data, .data, .data, .data, .sentinel, .sentinel, .pinned], laidTests := true, laidLooks := .later }
def BuildPartsUptoCardSaid : Prop := Claim7.holds Tryz.pinned (.plain (OpenSpec.upto buildPartsSpec)) buildPartsUptoCard

/-- THE SECOND FORM's CARD OF 'boltinglaw07.BuildRight'. -/
def buildRightUptoCard : Claim7 := { stood := { row := buildRightUptoRow, standIns := [], harness := (true, "9590332e374a9558e3683715433d23104236f9ed14e83e99957f19d5cefc6851"), looks := true }, kinds := [], alts := [], laidByText := true, laidKinds := [.data, .data, .data, .data, .sentinel, .sentinel, .pinned], laidTests := true, laidLooks := .later }
def BuildRightUptoCardSaid : Prop := Claim7.holds Tryz.pinned (.plain (OpenSpec.upto buildRightSpec)) buildRightUptoCard

/-- THE SECOND FORM's CARD OF 'boltinglaw08.WriteBack'. -/
def writeBackUptoCard : Claim7 := { stood := { row := writeBackUptoRow, standIns := [], harness := (true, "9590332e374a9558e3683715433d23104236f9ed14e83e99957f19d5cefc6851"), looks := true }, kinds := [], alts := [], laidByText := true, laidKinds := [.data, .data, .data, .data, .sentinel, .sentinel, .pinned], laidTests := true, laidLooks := .later }
def WriteBackUptoCardSaid : Prop := Claim7.holds Tryz.pinned (.plain (OpenSpec.upto writeBackSpec)) writeBackUptoCard

/-- THE SECOND FORM's CARD OF 'boltinglaw08.WriteStays'. -/
def writeStaysUptoCard : Claim7 := { stood := { row := writeStaysUptoRow, standIns := [], harness := (true, "9590332e374a9558e3683715433d23104236f9ed14e83e99957f19d5cefc6851"), looks := true }, kinds := [], alts := [], laidByText := true, laidKinds := [.data, .data, .data, .data, .sentinel, .sentinel, .pinned], laidTests := true, laidLooks := .later }
def WriteStaysUptoCardSaid : Prop := Claim7.holds Tryz.pinned (.plain (OpenSpec.upto writeStaysSpec)) writeStaysUptoCard

/-- THE SECOND FORM's CARD OF 'boltinglaw08.WriteInside'. -/
def writeInsideUptoCard : Claim7 := { stood := { row := writeInsideUptoRow, standIns := [], harness := (true, "9590332e374a9558e3683715433d23104236f9ed14e83e99957f19d5cefc6851"), looks := true }, kinds := [], alts := [], laidByText := true, laidKinds := [.data, .data, .data, .data, .sentinel, .sentinel, .pinned], laidTests := true, laidLooks := .later }
def WriteInsideUptoCardSaid : Prop := Claim7.holds Tryz.pinned (.plain (OpenSpec.upto writeInsideSpec)) writeInsideUptoCard
end Rows
end Go.Proofs.YtkcmghlhpbepcaaGreatDoor
