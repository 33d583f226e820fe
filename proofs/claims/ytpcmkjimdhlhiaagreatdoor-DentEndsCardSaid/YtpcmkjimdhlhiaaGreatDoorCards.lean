/-
  DERIVED. GIVEN WITH THE SEED: THE CARDS: each row of YtpcmkjimdhlhiaaGreatDoorRows.lean that lists a variable, with what it lists TIED to the program's text (the seventh form; the later family's looks); each row that meets fmt, with fmt's text TOLD by the authors' own Lean function (tested against real Go, not proved from fmt's source: count such statements apart). THE CARD IS WHAT COUNTS. Prove the row's statement (the work); the ties are given (YtpcmkjimdhlhiaaGreatDoorTie.lean); close each card by the builder's one call (the guide's Derived/Test/ToyasCard.lean, 'card_holds'). Laid BY PROGRAM, IN A SANDBOX (cutbox-door.mjs). By AI agents, Wed Nov 11 2026. No macro, syntax, notation, axiom, sorry.
-/
import Derived.Test.YtpcmkjimdhlhiaaGreatDoorRows
import GoSem.ClaimSeven
namespace Go.Proofs.YtpcmkjimdhlhiaaGreatDoor
namespace Rows

/-- THE TIED CARD OF 'transhumancelaw7.DentLocks'. -/
def dentLocksCard : Claim7 := { stood := { row := dentLocksRow, standIns := [], harness := (true, "442f2219e2326af95dd49fc79f87775de6a9303ed4840db2f2d554dea823496c"), looks := false }, kinds := [], alts := [], laidByText := true, laidKinds := [.data, .sentinel, .pinned], laidTests := true, laidLooks := .later }
def DentLocksCardSaid : Prop := Claim7.holds Tryz.pinned (.plain (OpenSpec.ofChange dentLocksSpec)) dentLocksCard

/-- THE TIED CARD OF 'transhumancelaw7.DentReads'. -/
def dentReadsCard : Claim7 := { stood := { row := dentReadsRow, standIns := [], harness := (true, "442f2219e2326af95dd49fc79f87775de6a9303ed4840db2f2d554dea823496c"), looks := false }, kinds := [], alts := [], laidByText := true, laidKinds := [.data, .sentinel, .pinned], laidTests := true, laidLooks := .later }
def DentReadsCardSaid : Prop := Claim7.holds Tryz.pinned (.plain (OpenSpec.ofChange dentReadsSpec)) dentReadsCard

/-- THE TIED CARD OF 'transhumancelaw7.DentValues'. -/
def dentValuesCard : Claim7 := { stood := { row := dentValuesRow, standIns := [], harness := (true, "442f2219e2326af95dd49fc79f87775de6a9303ed4840db2f2d554dea823496c"), looks := false }, kinds := [], alts := [], laidByText := true, laidKinds := [.data, .sentinel, .pinned], laidTests := true, laidLooks := .later }
def DentValuesCardSaid : Prop := Claim7.holds Tryz.pinned (.plain (OpenSpec.ofChange dentValuesSpec)) dentValuesCard

/-- THE TIED CARD OF 'transhumancelaw7.DentLines'. -/
def dentLinesCard : Claim7 := { stood := { row := dentLinesRow, standIns := [], harness := (true, "442f2219e2326af95dd49fc79f87775de6a9303ed4840db2f2d554dea823496c"), looks := false }, kinds := [], alts := [], laidByText := true, laidKinds := [.data, .sentinel, .pinned], laidTests := true, laidLooks := .later }
def DentLinesCardSaid : Prop := Claim7.holds Tryz.pinned (.plain (OpenSpec.ofChange dentLinesSpec)) dentLinesCard

/-- THE TIED CARD OF 'transhumancelaw7.DentBad'. -/
def dentBadCard : Claim7 := { stood := { row := dentBadRow, standIns := [], harness := (true, "442f2219e2326af95dd49fc79f87775de6a9303ed4840db2f2d554dea823496c"), looks := false }, kinds := [], alts := [], laidByText := true, laidKinds := [.data, .sentinel, .pinned], laidTests := true, laidLooks := .later }
def DentBadCardSaid : Prop := Claim7.holds Tryz.pinned (.plain (OpenSpec.ofChange dentBadSpec)) dentBadCard

/-- THE TIED CARD OF 'transhumancelaw7.DentOrder'. -/
def dentOrderCard : Claim7 := { stood := { row := dentOrderRow, standIns := [], harness := (true, "442f2219e2326af95dd49fc79f87775de6a9303ed4840db2f2d554dea823496c"), looks := false }, kinds := [], alts := [], laidByText := true, laidKinds := [.data, .sentinel, .pinned], laidTests := true, laidLooks := .later }
def DentOrderCardSaid : Prop := Claim7.holds Tryz.pinned (.plain (OpenSpec.ofChange dentOrderSpec)) dentOrderCard

/-- THE TIED CARD OF 'transhumancelaw7.DentEnds'. -/
def dentEndsCard : Claim7 := { stood := { row := dentEndsRow, standIns := [], harness := (true, "442f2219e2326af95dd49fc79f87775de6a9303ed4840db2f2d554dea823496c"), looks := false }, kinds := [], alts := [], laidByText := true, laidKinds := [.data, .sentinel, .pinned], laidTests := true, laidLooks := .later }
def DentEndsCardSaid : Prop := Claim7.holds Tryz.pinned (.plain (OpenSpec.ofChange dentEndsSpec)) dentEndsCard

/-- THE SECOND FORM's CARD OF 'transhumancelaw7.DentLocks'. -/
def dentLocksUptoCard : Claim7 := { stood := { row := dentLocksUptoRow, standIns := [], harness := (true, "442f2219e2326af95dd49fc79f87775de6a9303ed4840db2f2d554dea823496c"), looks := false }, kinds := [], alts := [], laidByText := true, laidKinds := [.data, .sentinel, .pinned], laidTests := true, laidLooks := .later }
def DentLocksUptoCardSaid : Prop := Claim7.holds Tryz.pinned (.plain (OpenSpec.upto dentLocksSpec)) dentLocksUptoCard

/-- THE SECOND FORM's CARD OF 'transhumancelaw7.DentReads'. -/
def dentReadsUptoCard : Claim7 := { stood := { row := dentReadsUptoRow, standIns := [], harness := (true, "442f2219e2326af95dd49fc79f87775de6a9303ed4840db2f2d554dea823496c"), looks := false }, kinds := [], alts := [], laidByText := true, laidKinds := [.data, .sentinel, .pinned], laidTests := true, laidLooks := .later }
def DentReadsUptoCardSaid : Prop := Claim7.holds Tryz.pinned (.plain (OpenSpec.upto dentReadsSpec)) dentReadsUptoCard

/-- THE SECOND FORM's CARD OF 'transhumancelaw7.DentValues'. -/
def dentValuesUptoCard : Claim7 := { stood := { row := dentValuesUptoRow, standIns := [], harness := (true, "442f2219e2326af95dd49fc79f87775de6a9303ed4840db2f2d554dea823496c"), looks := false }, kinds := [], alts := [], laidByText := true, laidKinds := [.data, .sentinel, .pinned], laidTests := true, laidLooks := .later }
def DentValuesUptoCardSaid : Prop := Claim7.holds Tryz.pinned (.plain (OpenSpec.upto dentValuesSpec)) dentValuesUptoCard

/-- THE SECOND FORM's CARD OF 'transhumancelaw7.DentLines'. -/
def dentLinesUptoCard : Claim7 := { stood := { row := dentLinesUptoRow, standIns := [], harness := (true, "442f2219e2326af95dd49fc79f87775de6a9303ed4840db2f2d554dea823496c"), looks := false }, kinds := [], alts := [], laidByText := true, laidKinds := [.data, .sentinel, .pinned], laidTests := true, laidLooks := .later }
def DentLinesUptoCardSaid : Prop := Claim7.holds Tryz.pinned (.plain (OpenSpec.upto dentLinesSpec)) dentLinesUptoCard

/-- THE SECOND FORM's CARD OF 'transhumancelaw7.DentBad'. -/
def dentBadUptoCard : Claim7 := { stood := { row := dentBadUptoRow, standIns := [], harness := (true, "442f2219e2326af95dd49fc79f87775de6a9303ed4840db2f2d554dea823496c"), looks := false }, kinds := [], alts := [], laidByText := true, laidKinds := [.data, .sentinel, .pinned], laidTests := true, laidLooks := .later }
def DentBadUptoCardSaid : Prop := Claim7.holds Tryz.pinned (.plain (OpenSpec.upto dentBadSpec)) dentBadUptoCard

/-- THE SECOND FORM's CARD OF 'transhumancelaw7.DentOrder'. -/
def dentOrderUptoCard : Claim7 := { stood := { row := dentOrderUptoRow, standIns := [], harness := (true, "442f2219e2326af95dd49fc79f87775de6a9303ed4840db2f2d554dea823496c"), looks := false }, kinds := [], alts := [], laidByText := true, laidKinds := [.data, .sentinel, .pinned], laidTests := true, laidLooks := .later }
def DentOrderUptoCardSaid : Prop := Claim7.holds Tryz.pinned (.plain (OpenSpec.upto dentOrderSpec)) dentOrderUptoCard

/-- THE SECOND FORM's CARD OF 'transhumancelaw7.DentEnds'. -/
def dentEndsUptoCard : Claim7 := { stood := { row := dentEndsUptoRow, standIns := [], harness := (true, "442f2219e2326af95dd49fc79f87775de6a9303ed4840db2f2d554dea823496c"), looks := false }, kinds := [], alts := [], laidByText := true, laidKinds := [.data, .sentinel, .pinned], laidTests := true, laidLooks := .later }
def DentEndsUptoCardSaid : Prop := Claim7.holds Tryz.pinned (.plain (OpenSpec.upto dentEndsSpec)) dentEndsUptoCard
end Rows
end Go.Proofs.YtpcmkjimdhlhiaaGreatDoor
