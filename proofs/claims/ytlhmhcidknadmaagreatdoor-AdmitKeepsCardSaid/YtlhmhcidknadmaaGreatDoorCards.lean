/-
  DERIVED. GIVEN WITH THE SEED: THE CARDS: each row of YtlhmhcidknadmaaGreatDoorRows.lean that lists a variable, with what it lists TIED to the program's text (the seventh form; the later family's looks); each row that meets fmt, with fmt's text TOLD by the authors' own Lean function (tested against real Go, not proved from fmt's source: count such statements apart). THE CARD IS WHAT COUNTS. Prove the row's statement (the work); the ties are given (YtlhmhcidknadmaaGreatDoorTie.lean); close each card by the builder's one call (the guide's Derived/Test/ToyasCard.lean, 'card_holds'). Laid BY PROGRAM, IN A SANDBOX (cutbox-door.mjs). By AI agents, Wed Nov 11 2026. No macro, syntax, notation, axiom, sorry.
-/
import Derived.Test.YtlhmhcidknadmaaGreatDoorRows
import GoSem.ClaimSeven
namespace Go.Proofs.YtlhmhcidknadmaaGreatDoor
namespace Rows

/-- THE TIED CARD OF 'bilgelaw23.AdmitDecides'. -/
def admitDecidesCard : Claim7 := { stood := { row := admitDecidesRow, standIns := [], harness := (true, "6fde9d14eca51950377a38ee97fbbdb79d5f5f7d6b0432aac86e9ab711333f8c"), looks := false }, kinds := [], alts := [], laidByText := true, laidKinds := [.data, .pinned], laidTests := true, laidLooks := .later }
def AdmitDecidesCardSaid : Prop := Claim7.holds Tryz.pinned (.plain (OpenSpec.ofChange admitDecidesSpec)) admitDecidesCard

/-- THE TIED CARD OF 'bilgelaw23.AdmitKeeps'. -/
def admitKeepsCard : Claim7 := { stood := { row := admitKeepsRow, standIns := [], harness := (true, "6fde9d14eca51950377a38ee97fbbdb79d5f5f7d6b0432aac86e9ab711333f8c"), looks := false }, kinds := [], alts := [], laidByText := true, laidKinds := [.data, .pinned], laidTests := true, laidLooks := .later }
def AdmitKeepsCardSaid : Prop := Claim7.holds Tryz.pinned (.plain (OpenSpec.ofChange admitKeepsSpec)) admitKeepsCard

/-- THE SECOND FORM's CARD OF 'bilgelaw23.AdmitDecides'. -/
def admitDecidesUptoCard : Claim7 := { stood := { row := admitDecidesUptoRow, standIns := [], harness := (true, "6fde9d14eca51950377a38ee97fbbdb79d5f5f7d6b0432aac86e9ab711333f8c"), looks := false }, kinds := [], alts := [], laidByText := true, laidKinds := [.data, .pinned], laidTests := true, laidLooks := .later }
def AdmitDecidesUptoCardSaid : Prop := Claim7.holds Tryz.pinned (.plain (OpenSpec.upto admitDecidesSpec)) admitDecidesUptoCard

/-- THE SECOND FORM's CARD OF 'bilgelaw23.AdmitKeeps'. -/
def admitKeepsUptoCard : Claim7 := { stood := { row := admitKeepsUptoRow, standIns := [], harness := (true, "6fde9d14eca51950377a38ee97fbbdb79d5f5f7d6b0432aac86e9ab711333f8c"), looks := false }, kinds := [], alts := [], laidByText := true, laidKinds := [.data, .pinned], laidTests := true, laidLooks := .later }
def AdmitKeepsUptoCardSaid : Prop := Claim7.holds Tryz.pinned (.plain (OpenSpec.upto admitKeepsSpec)) admitKeepsUptoCard
end Rows
end Go.Proofs.YtlhmhcidknadmaaGreatDoor
