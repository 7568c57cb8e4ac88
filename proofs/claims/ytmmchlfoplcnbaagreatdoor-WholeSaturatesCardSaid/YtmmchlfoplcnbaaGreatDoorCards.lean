/-
  DERIVED. GIVEN WITH THE SEED: THE CARDS: each row of YtmmchlfoplcnbaaGreatDoorRows.lean that lists a variable, with what it lists TIED to the program's text (the seventh form; the later family's looks); each row that meets fmt, with fmt's text TOLD by the authors' own Lean function (tested against real Go, not proved from fmt's source: count such statements apart). THE CARD IS WHAT COUNTS. Prove the row's statement (the work); the ties are given (YtmmchlfoplcnbaaGreatDoorTie.lean); close each card by the builder's one call (the guide's Derived/Test/ToyasCard.lean, 'card_holds'). Laid BY PROGRAM, IN A SANDBOX (cutbox-door.mjs). By AI agents, Wed Nov 11 2026. No macro, syntax, notation, axiom, sorry.
-/
import Derived.Test.YtmmchlfoplcnbaaGreatDoorRows
import GoSem.ClaimSeven
namespace Go.Proofs.YtmmchlfoplcnbaaGreatDoor
namespace Rows

/-- THE TIED CARD OF 'bilgetop.WholeSaturates'. -/
def wholeSaturatesCard : Claim7 := { stood := { row := wholeSaturatesRow, standIns := [], harness := (true, "8942b16d2f51852da9e14f68aaf85c1b5043c655b6cb1106645949e120876324"), looks := true }, kinds := [], alts := [], laidByText := true, laidKinds := [.data, .data, .data, .data, .sentinel, .sentinel, .pinned], laidTests := true, laidLooks := .later }
def WholeSaturatesCardSaid : Prop := Claim7.holds Tryz.pinned (.plain (OpenSpec.ofChange wholeSaturatesSpec)) wholeSaturatesCard

/-- THE TIED CARD OF 'bilgetop.WholePreempts'. -/
def wholePreemptsCard : Claim7 := { stood := { row := wholePreemptsRow, standIns := [], harness := (true, "8942b16d2f51852da9e14f68aaf85c1b5043c655b6cb1106645949e120876324"), looks := true }, kinds := [], alts := [], laidByText := true, laidKinds := [.data, .data, .data, .data, .sentinel, .sentinel, .pinned], laidTests := true, laidLooks := .later }
def WholePreemptsCardSaid : Prop := Claim7.holds Tryz.pinned (.plain (OpenSpec.ofChange wholePreemptsSpec)) wholePreemptsCard

/-- THE TIED CARD OF 'bilgetop.WholeRecovers'. -/
def wholeRecoversCard : Claim7 := { stood := { row := wholeRecoversRow, standIns := [], harness := (true, "8942b16d2f51852da9e14f68aaf85c1b5043c655b6cb1106645949e120876324"), looks := true }, kinds := [], alts := [], laidByText := true, laidKinds := [.data, .data, .data, .data, .sentinel, .sentinel, .pinned], laidTests := true, laidLooks := .later }
def WholeRecoversCardSaid : Prop := Claim7.holds Tryz.pinned (.plain (OpenSpec.ofChange wholeRecoversSpec)) wholeRecoversCard

/-- THE TIED CARD OF 'bilgetop.WholeRefused'. -/
def wholeRefusedCard : Claim7 := { stood := { row := wholeRefusedRow, standIns := [], harness := (true, "8942b16d2f51852da9e14f68aaf85c1b5043c655b6cb1106645949e120876324"), looks := true }, kinds := [], alts := [], laidByText := true, laidKinds := [.data, .data, .data, .data, .sentinel, .sentinel, .pinned], laidTests := true, laidLooks := .later }
def WholeRefusedCardSaid : Prop := Claim7.holds Tryz.pinned (.plain (OpenSpec.ofChange wholeRefusedSpec)) wholeRefusedCard

/-- THE TIED CARD OF 'bilgetop.WholeCrash'. -/
def wholeCrashCard : Claim7 := { stood := { row := wholeCrashRow, standIns := [], harness := (true, "8942b16d2f51852da9e14f68aaf85c1b5043c655b6cb1106645949e120876324"), looks := true }, kinds := [], alts := [], laidByText := true, laidKinds := [.data, .data, .data, .data, .sentinel, .sentinel, .pinned], laidTests := true, laidLooks := .later }
def WholeCrashCardSaid : Prop := Claim7.holds Tryz.pinned (.plain (OpenSpec.ofChange wholeCrashSpec)) wholeCrashCard

/-- THE SECOND FORM's CARD OF 'bilgetop.WholeSaturates'. -/
def wholeSaturatesUptoCard : Claim7 := { stood := { row := wholeSaturatesUptoRow, standIns := [], harness := (true, "8942b16d2f51852da9e14f68aaf85c1b5043c655b6cb1106645949e120876324"), looks := true }, kinds := [], alts := [], laidByText := true, laidKinds := [.data, .data, .data, .data, .sentinel, .sentinel, .pinned], laidTests := true, laidLooks := .later }
def WholeSaturatesUptoCardSaid : Prop := Claim7.holds Tryz.pinned (.plain (OpenSpec.upto wholeSaturatesSpec)) wholeSaturatesUptoCard

/-- THE SECOND FORM's CARD OF 'bilgetop.WholePreempts'. -/
def wholePreemptsUptoCard : Claim7 := { stood := { row := wholePreemptsUptoRow, standIns := [], harness := (true, "8942b16d2f51852da9e14f68aaf85c1b5043c655b6cb1106645949e120876324"), looks := true }, kinds := [], alts := [], laidByText := true, laidKinds := [.data, .data, .data, .data, .sentinel, .sentinel, .pinned], laidTests := true, laidLooks := .later }
def WholePreemptsUptoCardSaid : Prop := Claim7.holds Tryz.pinned (.plain (OpenSpec.upto wholePreemptsSpec)) wholePreemptsUptoCard

/-- THE SECOND FORM's CARD OF 'bilgetop.WholeRecovers'. -/
def wholeRecoversUptoCard : Claim7 := { stood := { row := wholeRecoversUptoRow, standIns := [], harness := (true, "8942b16d2f51852da9e14f68aaf85c1b5043c655b6cb1106645949e120876324"), looks := true }, kinds := [], alts := [], laidByText := true, laidKinds := [.data, .data, .data, .data, .sentinel, .sentinel, .pinned], laidTests := true, laidLooks := .later }
def WholeRecoversUptoCardSaid : Prop := Claim7.holds Tryz.pinned (.plain (OpenSpec.upto wholeRecoversSpec)) wholeRecoversUptoCard

/-- THE SECOND FORM's CARD OF 'bilgetop.WholeRefused'. -/
def wholeRefusedUptoCard : Claim7 := { stood := { row := wholeRefusedUptoRow, standIns := [], harness := (true, "8942b16d2f51852da9e14f68aaf85c1b5043c655b6cb1106645949e120876324"), looks := true }, kinds := [], alts := [], laidByText := true, laidKinds := [.data, .data, .data, .data, .sentinel, .sentinel, .pinned], laidTests := true, laidLooks := .later }
def WholeRefusedUptoCardSaid : Prop := Claim7.holds Tryz.pinned (.plain (OpenSpec.upto wholeRefusedSpec)) wholeRefusedUptoCard

/-- THE SECOND FORM's CARD OF 'bilgetop.WholeCrash'. -/
def wholeCrashUptoCard : Claim7 := { stood := { row := wholeCrashUptoRow, standIns := [], harness := (true, "8942b16d2f51852da9e14f68aaf85c1b5043c655b6cb1106645949e120876324"), looks := true }, kinds := [], alts := [], laidByText := true, laidKinds := [.data, .data, .data, .data, .sentinel, .sentinel, .pinned], laidTests := true, laidLooks := .later }
def WholeCrashUptoCardSaid : Prop := Claim7.holds Tryz.pinned (.plain (OpenSpec.upto wholeCrashSpec)) wholeCrashUptoCard
end Rows
end Go.Proofs.YtmmchlfoplcnbaaGreatDoor
