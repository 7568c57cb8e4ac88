/-
  DERIVED. GIVEN WITH THE SEED: THE CARDS: each row of YtkpcinkpdonihaaDoorRows.lean that lists a variable, with what it lists TIED to the program's text (the seventh form; the later family's looks); each row that meets fmt, with fmt's text TOLD by the authors' own Lean function (tested against real Go, not proved from fmt's source: count such statements apart). THE CARD IS WHAT COUNTS. Prove the row's statement (the work); the ties are given (YtkpcinkpdonihaaDoorTie.lean); close each card by the builder's one call (the guide's Derived/Test/ToyasCard.lean, 'card_holds'). Laid BY PROGRAM, IN A SANDBOX (cutbox-door.mjs). By AI agents, Wed Nov 11 2026. No macro, syntax, notation, axiom, sorry.
-/
import Derived.Test.YtkpcinkpdonihaaDoorRows
import GoSem.ClaimSeven
namespace Go.Proofs.YtkpcinkpdonihaaDoor
namespace Rows

/-- THE TIED CARD OF 'bilgelaw12.PodCuts'. -/
def podCutsCard : Claim7 := { stood := { row := podCutsRow, standIns := [], harness := (true, "fd0e0575c355ad126a537f6ac97bc5bff3fdf328229cc3821d381cc9f3ecf550"), looks := false }, kinds := [], alts := [], laidByText := true, laidKinds := [.data, .pinned], laidTests := true, laidLooks := .later }
def PodCutsCardSaid : Prop := Claim7.holds Tryd.pinned (.plain (OpenSpec.ofChange podCutsSpec)) podCutsCard

/-- THE SECOND FORM's CARD OF 'bilgelaw12.PodCuts'. -/
def podCutsUptoCard : Claim7 := { stood := { row := podCutsUptoRow, standIns := [], harness := (true, "fd0e0575c355ad126a537f6ac97bc5bff3fdf328229cc3821d381cc9f3ecf550"), looks := false }, kinds := [], alts := [], laidByText := true, laidKinds := [.data, .pinned], laidTests := true, laidLooks := .later }
def PodCutsUptoCardSaid : Prop := Claim7.holds Tryd.pinned (.plain (OpenSpec.upto podCutsSpec)) podCutsUptoCard
end Rows
end Go.Proofs.YtkpcinkpdonihaaDoor
