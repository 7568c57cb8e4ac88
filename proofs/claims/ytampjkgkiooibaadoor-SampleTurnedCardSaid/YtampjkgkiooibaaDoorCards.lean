/-
  DERIVED. GIVEN WITH THE SEED: THE CARDS: each row of YtampjkgkiooibaaDoorRows.lean that lists a variable, with what it lists TIED to the program's text (the seventh form; the later family's looks); each row that meets fmt, with fmt's text TOLD by the authors' own Lean function (tested against real Go, not proved from fmt's source: count such statements apart). THE CARD IS WHAT COUNTS. Prove the row's statement (the work); the ties are given (YtampjkgkiooibaaDoorTie.lean); close each card by the builder's one call (the guide's Derived/Test/ToyasCard.lean, 'card_holds'). Laid BY PROGRAM, IN A SANDBOX (cutbox-door.mjs). By AI agents, Wed Nov 11 2026. No macro, syntax, notation, axiom, sorry.
-/
import Derived.Test.YtampjkgkiooibaaDoorRows
import GoSem.ClaimSeven
namespace Go.Proofs.YtampjkgkiooibaaDoor
namespace Rows

/-- THE TIED CARD OF 'bilgelaw17.SampleReads'. -/
def sampleReadsCard : Claim7 := { stood := { row := sampleReadsRow, standIns := [], harness := (true, "8f2b2ef20c4f43ee7fd52e776c94f8f8e41aa75dd05c62eee3097ed2f2a32ab6"), looks := false }, kinds := [], alts := [], laidByText := true, laidKinds := [.data, .pinned], laidTests := true, laidLooks := .later }
def SampleReadsCardSaid : Prop := Claim7.holds Tryd.pinned (.plain (OpenSpec.ofChange sampleReadsSpec)) sampleReadsCard

/-- THE TIED CARD OF 'bilgelaw17.SampleTakes'. -/
def sampleTakesCard : Claim7 := { stood := { row := sampleTakesRow, standIns := [], harness := (true, "8f2b2ef20c4f43ee7fd52e776c94f8f8e41aa75dd05c62eee3097ed2f2a32ab6"), looks := false }, kinds := [], alts := [], laidByText := true, laidKinds := [.data, .pinned], laidTests := true, laidLooks := .later }
def SampleTakesCardSaid : Prop := Claim7.holds Tryd.pinned (.plain (OpenSpec.ofChange sampleTakesSpec)) sampleTakesCard

/-- THE TIED CARD OF 'bilgelaw17.SampleWhole'. -/
def sampleWholeCard : Claim7 := { stood := { row := sampleWholeRow, standIns := [], harness := (true, "8f2b2ef20c4f43ee7fd52e776c94f8f8e41aa75dd05c62eee3097ed2f2a32ab6"), looks := false }, kinds := [], alts := [], laidByText := true, laidKinds := [.data, .pinned], laidTests := true, laidLooks := .later }
def SampleWholeCardSaid : Prop := Claim7.holds Tryd.pinned (.plain (OpenSpec.ofChange sampleWholeSpec)) sampleWholeCard

/-- THE TIED CARD OF 'bilgelaw17.SampleOnce'. -/
def sampleOnceCard : Claim7 := { stood := { row := sampleOnceRow, standIns := [], harness := (true, "8f2b2ef20c4f43ee7fd52e776c94f8f8e41aa75dd05c62eee3097ed2f2a32ab6"), looks := false }, kinds := [], alts := [], laidByText := true, laidKinds := [.data, .pinned], laidTests := true, laidLooks := .later }
def SampleOnceCardSaid : Prop := Claim7.holds Tryd.pinned (.plain (OpenSpec.ofChange sampleOnceSpec)) sampleOnceCard

/-- THE TIED CARD OF 'bilgelaw17.SampleTurned'. -/
def sampleTurnedCard : Claim7 := { stood := { row := sampleTurnedRow, standIns := [], harness := (true, "8f2b2ef20c4f43ee7fd52e776c94f8f8e41aa75dd05c62eee3097ed2f2a32ab6"), looks := false }, kinds := [], alts := [], laidByText := true, laidKinds := [.data, .pinned], laidTests := true, laidLooks := .later }
def SampleTurnedCardSaid : Prop := Claim7.holds Tryd.pinned (.plain (OpenSpec.ofChange sampleTurnedSpec)) sampleTurnedCard

/-- THE TIED CARD OF 'bilgelaw17.SampleKeeps'. -/
def sampleKeepsCard : Claim7 := { stood := { row := sampleKeepsRow, standIns := [], harness := (true, "8f2b2ef20c4f43ee7fd52e776c94f8f8e41aa75dd05c62eee3097ed2f2a32ab6"), looks := false }, kinds := [], alts := [], laidByText := true, laidKinds := [.data, .pinned], laidTests := true, laidLooks := .later }
def SampleKeepsCardSaid : Prop := Claim7.holds Tryd.pinned (.plain (OpenSpec.ofChange sampleKeepsSpec)) sampleKeepsCard

/-- THE TIED CARD OF 'bilgelaw17.SampleSigns'. -/
def sampleSignsCard : Claim7 := { stood := { row := sampleSignsRow, standIns := [], harness := (true, "8f2b2ef20c4f43ee7fd52e776c94f8f8e41aa75dd05c62eee3097ed2f2a32ab6"), looks := false }, kinds := [], alts := [], laidByText := true, laidKinds := [.data, .pinned], laidTests := true, laidLooks := .later }
def SampleSignsCardSaid : Prop := Claim7.holds Tryd.pinned (.plain (OpenSpec.ofChange sampleSignsSpec)) sampleSignsCard

/-- THE SECOND FORM's CARD OF 'bilgelaw17.SampleReads'. -/
def sampleReadsUptoCard : Claim7 := { stood := { row := sampleReadsUptoRow, standIns := [], harness := (true, "8f2b2ef20c4f43ee7fd52e776c94f8f8e41aa75dd05c62eee3097ed2f2a32ab6"), looks := false }, kinds := [], alts := [], laidByText := true, laidKinds := [.data, .pinned], laidTests := true, laidLooks := .later }
def SampleReadsUptoCardSaid : Prop := Claim7.holds Tryd.pinned (.plain (OpenSpec.upto sampleReadsSpec)) sampleReadsUptoCard

/-- THE SECOND FORM's CARD OF 'bilgelaw17.SampleTakes'. -/
def sampleTakesUptoCard : Claim7 := { stood := { row := sampleTakesUptoRow, standIns := [], harness := (true, "8f2b2ef20c4f43ee7fd52e776c94f8f8e41aa75dd05c62eee3097ed2f2a32ab6"), looks := false }, kinds := [], alts := [], laidByText := true, laidKinds := [.data, .pinned], laidTests := true, laidLooks := .later }
def SampleTakesUptoCardSaid : Prop := Claim7.holds Tryd.pinned (.plain (OpenSpec.upto sampleTakesSpec)) sampleTakesUptoCard

/-- THE SECOND FORM's CARD OF 'bilgelaw17.SampleWhole'. -/
def sampleWholeUptoCard : Claim7 := { stood := { row := sampleWholeUptoRow, standIns := [], harness := (true, "8f2b2ef20c4f43ee7fd52e776c94f8f8e41aa75dd05c62eee3097ed2f2a32ab6"), looks := false }, kinds := [], alts := [], laidByText := true, laidKinds := [.data, .pinned], laidTests := true, laidLooks := .later }
def SampleWholeUptoCardSaid : Prop := Claim7.holds Tryd.pinned (.plain (OpenSpec.upto sampleWholeSpec)) sampleWholeUptoCard

/-- THE SECOND FORM's CARD OF 'bilgelaw17.SampleOnce'. -/
def sampleOnceUptoCard : Claim7 := { stood := { row := sampleOnceUptoRow, standIns := [], harness := (true, "8f2b2ef20c4f43ee7fd52e776c94f8f8e41aa75dd05c62eee3097ed2f2a32ab6"), looks := false }, kinds := [], alts := [], laidByText := true, laidKinds := [.data, .pinned], laidTests := true, laidLooks := .later }
def SampleOnceUptoCardSaid : Prop := Claim7.holds Tryd.pinned (.plain (OpenSpec.upto sampleOnceSpec)) sampleOnceUptoCard

/-- THE SECOND FORM's CARD OF 'bilgelaw17.SampleTurned'. -/
def sampleTurnedUptoCard : Claim7 := { stood := { row := sampleTurnedUptoRow, standIns := [], harness := (true, "8f2b2ef20c4f43ee7fd52e776c94f8f8e41aa75dd05c62eee3097ed2f2a32ab6"), looks := false }, kinds := [], alts := [], laidByText := true, laidKinds := [.data, .pinned], laidTests := true, laidLooks := .later }
def SampleTurnedUptoCardSaid : Prop := Claim7.holds Tryd.pinned (.plain (OpenSpec.upto sampleTurnedSpec)) sampleTurnedUptoCard

/-- THE SECOND FORM's CARD OF 'bilgelaw17.SampleKeeps'. -/
def sampleKeepsUptoCard : Claim7 := { stood := { row := sampleKeepsUptoRow, standIns := [], harness := (true, "8f2b2ef20c4f43ee7fd52e776c94f8f8e41aa75dd05c62eee3097ed2f2a32ab6"), looks := false }, kinds := [], alts := [], laidByText := true, laidKinds := [.data, .pinned], laidTests := true, laidLooks := .later }
def SampleKeepsUptoCardSaid : Prop := Claim7.holds Tryd.pinned (.plain (OpenSpec.upto sampleKeepsSpec)) sampleKeepsUptoCard

/-- THE SECOND FORM's CARD OF 'bilgelaw17.SampleSigns'. -/
def sampleSignsUptoCard : Claim7 := { stood := { row := sampleSignsUptoRow, standIns := [], harness := (true, "8f2b2ef20c4f43ee7fd52e776c94f8f8e41aa75dd05c62eee3097ed2f2a32ab6"), looks := false }, kinds := [], alts := [], laidByText := true, laidKinds := [.data, .pinned], laidTests := true, laidLooks := .later }
def SampleSignsUptoCardSaid : Prop := Claim7.holds Tryd.pinned (.plain (OpenSpec.upto sampleSignsSpec)) sampleSignsUptoCard
end Rows
end Go.Proofs.YtampjkgkiooibaaDoor
