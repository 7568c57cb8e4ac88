/-
  DERIVED. GIVEN WITH THE SEED: THE CARDS: each row of YtakgblgbfbpmoaaDoorRows.lean that lists a variable, with what it lists TIED to the program's text (the seventh form; the later family's looks); each row that meets fmt, with fmt's text TOLD by the authors' own Lean function (tested against real Go, not proved from fmt's source: count such statements apart). THE CARD IS WHAT COUNTS. Prove the row's statement (the work); the ties are given (YtakgblgbfbpmoaaDoorTie.lean); close each card by the builder's one call (the guide's Derived/Test/ToyasCard.lean, 'card_holds'). Laid BY PROGRAM, IN A SANDBOX (cutbox-door.mjs). By AI agents, Wed Nov 11 2026. No macro, syntax, notation, axiom, sorry.
-/
import Derived.Test.YtakgblgbfbpmoaaDoorRows
import GoSem.ClaimSeven
namespace Go.Proofs.YtakgblgbfbpmoaaDoor
namespace Rows

/-- THE TIED CARD OF 'bilgelaw24.StatePuts'. -/
def statePutsCard : Claim7 := { stood := { row := statePutsRow, standIns := [], harness := (true, "20c0db348486c6c03776e5fe0ba6005dcf0e2da217ddead1ef409b35774188da"), looks := false }, kinds := [], alts := [], laidByText := true, laidKinds := [.data, .pinned], laidTests := true, laidLooks := .later }
def StatePutsCardSaid : Prop := Claim7.holds Tryd.pinned (.plain (OpenSpec.ofChange statePutsSpec)) statePutsCard

/-- THE TIED CARD OF 'bilgelaw24.StateGets'. -/
def stateGetsCard : Claim7 := { stood := { row := stateGetsRow, standIns := [], harness := (true, "20c0db348486c6c03776e5fe0ba6005dcf0e2da217ddead1ef409b35774188da"), looks := false }, kinds := [], alts := [], laidByText := true, laidKinds := [.data, .pinned], laidTests := true, laidLooks := .later }
def StateGetsCardSaid : Prop := Claim7.holds Tryd.pinned (.plain (OpenSpec.ofChange stateGetsSpec)) stateGetsCard

/-- THE TIED CARD OF 'bilgelaw24.StateBack'. -/
def stateBackCard : Claim7 := { stood := { row := stateBackRow, standIns := [], harness := (true, "20c0db348486c6c03776e5fe0ba6005dcf0e2da217ddead1ef409b35774188da"), looks := false }, kinds := [], alts := [], laidByText := true, laidKinds := [.data, .pinned], laidTests := true, laidLooks := .later }
def StateBackCardSaid : Prop := Claim7.holds Tryd.pinned (.plain (OpenSpec.ofChange stateBackSpec)) stateBackCard

/-- THE TIED CARD OF 'bilgelaw24.StateUnlike'. -/
def stateUnlikeCard : Claim7 := { stood := { row := stateUnlikeRow, standIns := [], harness := (true, "20c0db348486c6c03776e5fe0ba6005dcf0e2da217ddead1ef409b35774188da"), looks := false }, kinds := [], alts := [], laidByText := true, laidKinds := [.data, .pinned], laidTests := true, laidLooks := .later }
def StateUnlikeCardSaid : Prop := Claim7.holds Tryd.pinned (.plain (OpenSpec.ofChange stateUnlikeSpec)) stateUnlikeCard

/-- THE TIED CARD OF 'bilgelaw24.StateTable'. -/
def stateTableCard : Claim7 := { stood := { row := stateTableRow, standIns := [], harness := (true, "20c0db348486c6c03776e5fe0ba6005dcf0e2da217ddead1ef409b35774188da"), looks := false }, kinds := [], alts := [], laidByText := true, laidKinds := [.data, .pinned], laidTests := true, laidLooks := .later }
def StateTableCardSaid : Prop := Claim7.holds Tryd.pinned (.plain (OpenSpec.ofChange stateTableSpec)) stateTableCard

/-- THE TIED CARD OF 'bilgelaw24.StateTwice'. -/
def stateTwiceCard : Claim7 := { stood := { row := stateTwiceRow, standIns := [], harness := (true, "20c0db348486c6c03776e5fe0ba6005dcf0e2da217ddead1ef409b35774188da"), looks := false }, kinds := [], alts := [], laidByText := true, laidKinds := [.data, .pinned], laidTests := true, laidLooks := .later }
def StateTwiceCardSaid : Prop := Claim7.holds Tryd.pinned (.plain (OpenSpec.ofChange stateTwiceSpec)) stateTwiceCard

/-- THE TIED CARD OF 'bilgelaw24.StateFits'. -/
def stateFitsCard : Claim7 := { stood := { row := stateFitsRow, standIns := [], harness := (true, "20c0db348486c6c03776e5fe0ba6005dcf0e2da217ddead1ef409b35774188da"), looks := false }, kinds := [], alts := [], laidByText := true, laidKinds := [.data, .pinned], laidTests := true, laidLooks := .later }
def StateFitsCardSaid : Prop := Claim7.holds Tryd.pinned (.plain (OpenSpec.ofChange stateFitsSpec)) stateFitsCard

/-- THE TIED CARD OF 'bilgelaw24.StateKeeps'. -/
def stateKeepsCard : Claim7 := { stood := { row := stateKeepsRow, standIns := [], harness := (true, "20c0db348486c6c03776e5fe0ba6005dcf0e2da217ddead1ef409b35774188da"), looks := false }, kinds := [], alts := [], laidByText := true, laidKinds := [.data, .pinned], laidTests := true, laidLooks := .later }
def StateKeepsCardSaid : Prop := Claim7.holds Tryd.pinned (.plain (OpenSpec.ofChange stateKeepsSpec)) stateKeepsCard

/-- THE SECOND FORM's CARD OF 'bilgelaw24.StatePuts'. -/
def statePutsUptoCard : Claim7 := { stood := { row := statePutsUptoRow, standIns := [], harness := (true, "20c0db348486c6c03776e5fe0ba6005dcf0e2da217ddead1ef409b35774188da"), looks := false }, kinds := [], alts := [], laidByText := true, laidKinds := [.data, .pinned], laidTests := true, laidLooks := .later }
def StatePutsUptoCardSaid : Prop := Claim7.holds Tryd.pinned (.plain (OpenSpec.upto statePutsSpec)) statePutsUptoCard

/-- THE SECOND FORM's CARD OF 'bilgelaw24.StateGets'. -/
def stateGetsUptoCard : Claim7 := { stood := { row := stateGetsUptoRow, standIns := [], harness := (true, "20c0db348486c6c03776e5fe0ba6005dcf0e2da217ddead1ef409b35774188da"), looks := false }, kinds := [], alts := [], laidByText := true, laidKinds := [.data, .pinned], laidTests := true, laidLooks := .later }
def StateGetsUptoCardSaid : Prop := Claim7.holds Tryd.pinned (.plain (OpenSpec.upto stateGetsSpec)) stateGetsUptoCard

/-- THE SECOND FORM's CARD OF 'bilgelaw24.StateBack'. -/
def stateBackUptoCard : Claim7 := { stood := { row := stateBackUptoRow, standIns := [], harness := (true, "20c0db348486c6c03776e5fe0ba6005dcf0e2da217ddead1ef409b35774188da"), looks := false }, kinds := [], alts := [], laidByText := true, laidKinds := [.data, .pinned], laidTests := true, laidLooks := .later }
def StateBackUptoCardSaid : Prop := Claim7.holds Tryd.pinned (.plain (OpenSpec.upto stateBackSpec)) stateBackUptoCard

/-- THE SECOND FORM's CARD OF 'bilgelaw24.StateUnlike'. -/
def stateUnlikeUptoCard : Claim7 := { stood := { row := stateUnlikeUptoRow, standIns := [], harness := (true, "20c0db348486c6c03776e5fe0ba6005dcf0e2da217ddead1ef409b35774188da"), looks := false }, kinds := [], alts := [], laidByText := true, laidKinds := [.data, .pinned], laidTests := true, laidLooks := .later }
def StateUnlikeUptoCardSaid : Prop := Claim7.holds Tryd.pinned (.plain (OpenSpec.upto stateUnlikeSpec)) stateUnlikeUptoCard

/-- THE SECOND FORM's CARD OF 'bilgelaw24.StateTable'. -/
def stateTableUptoCard : Claim7 := { stood := { row := stateTableUptoRow, standIns := [], harness := (true, "20c0db348486c6c03776e5fe0ba6005dcf0e2da217ddead1ef409b35774188da"), looks := false }, kinds := [], alts := [], laidByText := true, laidKinds := [.data, .pinned], laidTests := true, laidLooks := .later }
def StateTableUptoCardSaid : Prop := Claim7.holds Tryd.pinned (.plain (OpenSpec.upto stateTableSpec)) stateTableUptoCard

/-- THE SECOND FORM's CARD OF 'bilgelaw24.StateTwice'. -/
def stateTwiceUptoCard : Claim7 := { stood := { row := stateTwiceUptoRow, standIns := [], harness := (true, "20c0db348486c6c03776e5fe0ba6005dcf0e2da217ddead1ef409b35774188da"), looks := false }, kinds := [], alts := [], laidByText := true, laidKinds := [.data, .pinned], laidTests := true, laidLooks := .later }
def StateTwiceUptoCardSaid : Prop := Claim7.holds Tryd.pinned (.plain (OpenSpec.upto stateTwiceSpec)) stateTwiceUptoCard

/-- THE SECOND FORM's CARD OF 'bilgelaw24.StateFits'. -/
def stateFitsUptoCard : Claim7 := { stood := { row := stateFitsUptoRow, standIns := [], harness := (true, "20c0db348486c6c03776e5fe0ba6005dcf0e2da217ddead1ef409b35774188da"), looks := false }, kinds := [], alts := [], laidByText := true, laidKinds := [.data, .pinned], laidTests := true, laidLooks := .later }
def StateFitsUptoCardSaid : Prop := Claim7.holds Tryd.pinned (.plain (OpenSpec.upto stateFitsSpec)) stateFitsUptoCard

/-- THE SECOND FORM's CARD OF 'bilgelaw24.StateKeeps'. -/
def stateKeepsUptoCard : Claim7 := { stood := { row := stateKeepsUptoRow, standIns := [], harness := (true, "20c0db348486c6c03776e5fe0ba6005dcf0e2da217ddead1ef409b35774188da"), looks := false }, kinds := [], alts := [], laidByText := true, laidKinds := [.data, .pinned], laidTests := true, laidLooks := .later }
def StateKeepsUptoCardSaid : Prop := Claim7.holds Tryd.pinned (.plain (OpenSpec.upto stateKeepsSpec)) stateKeepsUptoCard
end Rows
end Go.Proofs.YtakgblgbfbpmoaaDoor
