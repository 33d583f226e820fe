/-
  DERIVED. GIVEN WITH THE SEED: THE CARDS: each row of YtpcmkjimdhlhiaaDoorRows.lean that lists a variable, with what it lists TIED to the program's text (the seventh form; the later family's looks); each row that meets fmt, with fmt's text TOLD by the authors' own Lean function (tested against real Go, not proved from fmt's source: count such statements apart). THE CARD IS WHAT COUNTS. Prove the row's statement (the work); the ties are given (YtpcmkjimdhlhiaaDoorTie.lean); close each card by the builder's one call (the guide's Derived/Test/ToyasCard.lean, 'card_holds'). Laid BY PROGRAM, IN A SANDBOX (cutbox-door.mjs). By AI agents, Wed Nov 11 2026. No macro, syntax, notation, axiom, sorry.
-/
import Derived.Test.YtpcmkjimdhlhiaaDoorRows
import GoSem.ClaimSeven
namespace Go.Proofs.YtpcmkjimdhlhiaaDoor
namespace Rows

/-- THE TIED CARD OF 'transhumancelaw6.TableLines'. -/
def tableLinesCard : Claim7 := { stood := { row := tableLinesRow, standIns := [], harness := (true, "36a1bc9876d850287e6707091c24b2450e40604d79dd51667ff5481841cc7e18"), looks := false }, kinds := [], alts := [], laidByText := true, laidKinds := [.sentinel], laidTests := true, laidLooks := .later }
def TableLinesCardSaid : Prop := Claim7.holds Tryd.pinned (.plain (OpenSpec.ofChange tableLinesSpec)) tableLinesCard

/-- THE TIED CARD OF 'transhumancelaw6.TableBad'. -/
def tableBadCard : Claim7 := { stood := { row := tableBadRow, standIns := [], harness := (true, "36a1bc9876d850287e6707091c24b2450e40604d79dd51667ff5481841cc7e18"), looks := false }, kinds := [], alts := [], laidByText := true, laidKinds := [.sentinel], laidTests := true, laidLooks := .later }
def TableBadCardSaid : Prop := Claim7.holds Tryd.pinned (.plain (OpenSpec.ofChange tableBadSpec)) tableBadCard

/-- THE TIED CARD OF 'transhumancelaw7.DentLacks'. -/
def dentLacksCard : Claim7 := { stood := { row := dentLacksRow, standIns := [], harness := (true, "36a1bc9876d850287e6707091c24b2450e40604d79dd51667ff5481841cc7e18"), looks := false }, kinds := [], alts := [], laidByText := true, laidKinds := [.data, .sentinel, .pinned], laidTests := true, laidLooks := .later }
def DentLacksCardSaid : Prop := Claim7.holds Tryd.pinned (.plain (OpenSpec.ofChange dentLacksSpec)) dentLacksCard

/-- THE TIED CARD OF 'transhumancelaw7.DentKnown'. -/
def dentKnownCard : Claim7 := { stood := { row := dentKnownRow, standIns := [], harness := (true, "36a1bc9876d850287e6707091c24b2450e40604d79dd51667ff5481841cc7e18"), looks := false }, kinds := [], alts := [], laidByText := true, laidKinds := [.data, .sentinel, .pinned], laidTests := true, laidLooks := .later }
def DentKnownCardSaid : Prop := Claim7.holds Tryd.pinned (.plain (OpenSpec.ofChange dentKnownSpec)) dentKnownCard

/-- THE TIED CARD OF 'transhumancelaw7.DentMany'. -/
def dentManyCard : Claim7 := { stood := { row := dentManyRow, standIns := [], harness := (true, "36a1bc9876d850287e6707091c24b2450e40604d79dd51667ff5481841cc7e18"), looks := false }, kinds := [], alts := [], laidByText := true, laidKinds := [.data, .sentinel, .pinned], laidTests := true, laidLooks := .later }
def DentManyCardSaid : Prop := Claim7.holds Tryd.pinned (.plain (OpenSpec.ofChange dentManySpec)) dentManyCard

/-- THE SECOND FORM's CARD OF 'transhumancelaw6.TableLines'. -/
def tableLinesUptoCard : Claim7 := { stood := { row := tableLinesUptoRow, standIns := [], harness := (true, "36a1bc9876d850287e6707091c24b2450e40604d79dd51667ff5481841cc7e18"), looks := false }, kinds := [], alts := [], laidByText := true, laidKinds := [.sentinel], laidTests := true, laidLooks := .later }
def TableLinesUptoCardSaid : Prop := Claim7.holds Tryd.pinned (.plain (OpenSpec.upto tableLinesSpec)) tableLinesUptoCard

/-- THE SECOND FORM's CARD OF 'transhumancelaw6.TableBad'. -/
def tableBadUptoCard : Claim7 := { stood := { row := tableBadUptoRow, standIns := [], harness := (true, "36a1bc9876d850287e6707091c24b2450e40604d79dd51667ff5481841cc7e18"), looks := false }, kinds := [], alts := [], laidByText := true, laidKinds := [.sentinel], laidTests := true, laidLooks := .later }
def TableBadUptoCardSaid : Prop := Claim7.holds Tryd.pinned (.plain (OpenSpec.upto tableBadSpec)) tableBadUptoCard

/-- THE SECOND FORM's CARD OF 'transhumancelaw7.DentLacks'. -/
def dentLacksUptoCard : Claim7 := { stood := { row := dentLacksUptoRow, standIns := [], harness := (true, "36a1bc9876d850287e6707091c24b2450e40604d79dd51667ff5481841cc7e18"), looks := false }, kinds := [], alts := [], laidByText := true, laidKinds := [.data, .sentinel, .pinned], laidTests := true, laidLooks := .later }
def DentLacksUptoCardSaid : Prop := Claim7.holds Tryd.pinned (.plain (OpenSpec.upto dentLacksSpec)) dentLacksUptoCard

/-- THE SECOND FORM's CARD OF 'transhumancelaw7.DentKnown'. -/
def dentKnownUptoCard : Claim7 := { stood := { row := dentKnownUptoRow, standIns := [], harness := (true, "36a1bc9876d850287e6707091c24b2450e40604d79dd51667ff5481841cc7e18"), looks := false }, kinds := [], alts := [], laidByText := true, laidKinds := [.data, .sentinel, .pinned], laidTests := true, laidLooks := .later }
def DentKnownUptoCardSaid : Prop := Claim7.holds Tryd.pinned (.plain (OpenSpec.upto dentKnownSpec)) dentKnownUptoCard

/-- THE SECOND FORM's CARD OF 'transhumancelaw7.DentMany'. -/
def dentManyUptoCard : Claim7 := { stood := { row := dentManyUptoRow, standIns := [], harness := (true, "36a1bc9876d850287e6707091c24b2450e40604d79dd51667ff5481841cc7e18"), looks := false }, kinds := [], alts := [], laidByText := true, laidKinds := [.data, .sentinel, .pinned], laidTests := true, laidLooks := .later }
def DentManyUptoCardSaid : Prop := Claim7.holds Tryd.pinned (.plain (OpenSpec.upto dentManySpec)) dentManyUptoCard
end Rows
end Go.Proofs.YtpcmkjimdhlhiaaDoor
