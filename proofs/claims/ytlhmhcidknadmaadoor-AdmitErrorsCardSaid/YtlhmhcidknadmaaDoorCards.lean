/-
  DERIVED. GIVEN WITH THE SEED: THE CARDS: each row of YtlhmhcidknadmaaDoorRows.lean that lists a variable, with what it lists TIED to the program's text (the seventh form; the later family's looks); each row that meets fmt, with fmt's text TOLD by the authors' own Lean function (tested against real Go, not proved from fmt's source: count such statements apart). THE CARD IS WHAT COUNTS. Prove the row's statement (the work); the ties are given (YtlhmhcidknadmaaDoorTie.lean); close each card by the builder's one call (the guide's Derived/Test/ToyasCard.lean, 'card_holds'). Laid BY PROGRAM, IN A SANDBOX (cutbox-door.mjs). By AI agents, Wed Nov 11 2026. No macro, syntax, notation, axiom, sorry.
-/
import Derived.Test.YtlhmhcidknadmaaDoorRows
import GoSem.ClaimSeven
namespace Go.Proofs.YtlhmhcidknadmaaDoor
namespace Rows

/-- THE TIED CARD OF 'bilgelaw23.AdmitBound'. -/
def admitBoundCard : Claim7 := { stood := { row := admitBoundRow, standIns := [], harness := (true, "a7b79af4a9bd6facf91e9f6cfed28a97a6e1bd8d92f0da5dd69e61942e8f268a"), looks := false }, kinds := [], alts := [], laidByText := true, laidKinds := [.data, .pinned], laidTests := true, laidLooks := .later }
def AdmitBoundCardSaid : Prop := Claim7.holds Tryd.pinned (.plain (OpenSpec.ofChange admitBoundSpec)) admitBoundCard

/-- THE TIED CARD OF 'bilgelaw23.AdmitCritical'. -/
def admitCriticalCard : Claim7 := { stood := { row := admitCriticalRow, standIns := [], harness := (true, "a7b79af4a9bd6facf91e9f6cfed28a97a6e1bd8d92f0da5dd69e61942e8f268a"), looks := false }, kinds := [], alts := [], laidByText := true, laidKinds := [.data, .pinned], laidTests := true, laidLooks := .later }
def AdmitCriticalCardSaid : Prop := Claim7.holds Tryd.pinned (.plain (OpenSpec.ofChange admitCriticalSpec)) admitCriticalCard

/-- THE TIED CARD OF 'bilgelaw23.AdmitBars'. -/
def admitBarsCard : Claim7 := { stood := { row := admitBarsRow, standIns := [], harness := (true, "a7b79af4a9bd6facf91e9f6cfed28a97a6e1bd8d92f0da5dd69e61942e8f268a"), looks := false }, kinds := [], alts := [], laidByText := true, laidKinds := [.data, .pinned], laidTests := true, laidLooks := .later }
def AdmitBarsCardSaid : Prop := Claim7.holds Tryd.pinned (.plain (OpenSpec.ofChange admitBarsSpec)) admitBarsCard

/-- THE TIED CARD OF 'bilgelaw23.AdmitErrors'. -/
def admitErrorsCard : Claim7 := { stood := { row := admitErrorsRow, standIns := [], harness := (true, "a7b79af4a9bd6facf91e9f6cfed28a97a6e1bd8d92f0da5dd69e61942e8f268a"), looks := false }, kinds := [], alts := [], laidByText := true, laidKinds := [.data, .pinned], laidTests := true, laidLooks := .later }
def AdmitErrorsCardSaid : Prop := Claim7.holds Tryd.pinned (.plain (OpenSpec.ofChange admitErrorsSpec)) admitErrorsCard

/-- THE TIED CARD OF 'bilgelaw23.AdmitLess'. -/
def admitLessCard : Claim7 := { stood := { row := admitLessRow, standIns := [], harness := (true, "a7b79af4a9bd6facf91e9f6cfed28a97a6e1bd8d92f0da5dd69e61942e8f268a"), looks := false }, kinds := [], alts := [], laidByText := true, laidKinds := [.data, .pinned], laidTests := true, laidLooks := .later }
def AdmitLessCardSaid : Prop := Claim7.holds Tryd.pinned (.plain (OpenSpec.ofChange admitLessSpec)) admitLessCard

/-- THE SECOND FORM's CARD OF 'bilgelaw23.AdmitBound'. -/
def admitBoundUptoCard : Claim7 := { stood := { row := admitBoundUptoRow, standIns := [], harness := (true, "a7b79af4a9bd6facf91e9f6cfed28a97a6e1bd8d92f0da5dd69e61942e8f268a"), looks := false }, kinds := [], alts := [], laidByText := true, laidKinds := [.data, .pinned], laidTests := true, laidLooks := .later }
def AdmitBoundUptoCardSaid : Prop := Claim7.holds Tryd.pinned (.plain (OpenSpec.upto admitBoundSpec)) admitBoundUptoCard

/-- THE SECOND FORM's CARD OF 'bilgelaw23.AdmitCritical'. -/
def admitCriticalUptoCard : Claim7 := { stood := { row := admitCriticalUptoRow, standIns := [], harness := (true, "a7b79af4a9bd6facf91e9f6cfed28a97a6e1bd8d92f0da5dd69e61942e8f268a"), looks := false }, kinds := [], alts := [], laidByText := true, laidKinds := [.data, .pinned], laidTests := true, laidLooks := .later }
def AdmitCriticalUptoCardSaid : Prop := Claim7.holds Tryd.pinned (.plain (OpenSpec.upto admitCriticalSpec)) admitCriticalUptoCard

/-- THE SECOND FORM's CARD OF 'bilgelaw23.AdmitBars'. -/
def admitBarsUptoCard : Claim7 := { stood := { row := admitBarsUptoRow, standIns := [], harness := (true, "a7b79af4a9bd6facf91e9f6cfed28a97a6e1bd8d92f0da5dd69e61942e8f268a"), looks := false }, kinds := [], alts := [], laidByText := true, laidKinds := [.data, .pinned], laidTests := true, laidLooks := .later }
def AdmitBarsUptoCardSaid : Prop := Claim7.holds Tryd.pinned (.plain (OpenSpec.upto admitBarsSpec)) admitBarsUptoCard

/-- THE SECOND FORM's CARD OF 'bilgelaw23.AdmitErrors'. -/
def admitErrorsUptoCard : Claim7 := { stood := { row := admitErrorsUptoRow, standIns := [], harness := (true, "a7b79af4a9bd6facf91e9f6cfed28a97a6e1bd8d92f0da5dd69e61942e8f268a"), looks := false }, kinds := [], alts := [], laidByText := true, laidKinds := [.data, .pinned], laidTests := true, laidLooks := .later }
def AdmitErrorsUptoCardSaid : Prop := Claim7.holds Tryd.pinned (.plain (OpenSpec.upto admitErrorsSpec)) admitErrorsUptoCard

/-- THE SECOND FORM's CARD OF 'bilgelaw23.AdmitLess'. -/
def admitLessUptoCard : Claim7 := { stood := { row := admitLessUptoRow, standIns := [], harness := (true, "a7b79af4a9bd6facf91e9f6cfed28a97a6e1bd8d92f0da5dd69e61942e8f268a"), looks := false }, kinds := [], alts := [], laidByText := true, laidKinds := [.data, .pinned], laidTests := true, laidLooks := .later }
def AdmitLessUptoCardSaid : Prop := Claim7.holds Tryd.pinned (.plain (OpenSpec.upto admitLessSpec)) admitLessUptoCard
end Rows
end Go.Proofs.YtlhmhcidknadmaaDoor
