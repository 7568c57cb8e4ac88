/-
  DERIVED. GIVEN WITH THE SEED: THE CARDS: each row of YtjngkmfkgbcjjaaDoorRows.lean that lists a variable, with what it lists TIED to the program's text (the seventh form; the later family's looks); each row that meets fmt, with fmt's text TOLD by the authors' own Lean function (tested against real Go, not proved from fmt's source: count such statements apart). THE CARD IS WHAT COUNTS. Prove the row's statement (the work); the ties are given (YtjngkmfkgbcjjaaDoorTie.lean); close each card by the builder's one call (the guide's Derived/Test/ToyasCard.lean, 'card_holds'). Laid BY PROGRAM, IN A SANDBOX (cutbox-door.mjs). By AI agents, Wed Nov 11 2026. No macro, syntax, notation, axiom, sorry.
-/
import Derived.Test.YtjngkmfkgbcjjaaDoorRows
import GoSem.ClaimSeven
namespace Go.Proofs.YtjngkmfkgbcjjaaDoor
namespace Rows

/-- THE TIED CARD OF 'bilgelaw12.PodPuts'. -/
def podPutsCard : Claim7 := { stood := { row := podPutsRow, standIns := [], harness := (true, "442f36e93010854482d9627860fda205e2f9ef3e30a6ea55fa25e120498d5944"), looks := false }, kinds := [], alts := [], laidByText := true, laidKinds := [.data, .pinned], laidTests := true, laidLooks := .later }
def PodPutsCardSaid : Prop := Claim7.holds Tryd.pinned (.plain (OpenSpec.ofChange podPutsSpec)) podPutsCard

/-- THE TIED CARD OF 'bilgelaw12.PodBack'. -/
def podBackCard : Claim7 := { stood := { row := podBackRow, standIns := [], harness := (true, "442f36e93010854482d9627860fda205e2f9ef3e30a6ea55fa25e120498d5944"), looks := false }, kinds := [], alts := [], laidByText := true, laidKinds := [.data, .pinned], laidTests := true, laidLooks := .later }
def PodBackCardSaid : Prop := Claim7.holds Tryd.pinned (.plain (OpenSpec.ofChange podBackSpec)) podBackCard

/-- THE TIED CARD OF 'bilgelaw12.PodCuts'. -/
def podCutsCard : Claim7 := { stood := { row := podCutsRow, standIns := [], harness := (true, "442f36e93010854482d9627860fda205e2f9ef3e30a6ea55fa25e120498d5944"), looks := false }, kinds := [], alts := [], laidByText := true, laidKinds := [.data, .pinned], laidTests := true, laidLooks := .later }
def PodCutsCardSaid : Prop := Claim7.holds Tryd.pinned (.plain (OpenSpec.ofChange podCutsSpec)) podCutsCard

/-- THE TIED CARD OF 'bilgelaw12.PodSums'. -/
def podSumsCard : Claim7 := { stood := { row := podSumsRow, standIns := [], harness := (true, "442f36e93010854482d9627860fda205e2f9ef3e30a6ea55fa25e120498d5944"), looks := false }, kinds := [], alts := [], laidByText := true, laidKinds := [.data, .pinned], laidTests := true, laidLooks := .later }
def PodSumsCardSaid : Prop := Claim7.holds Tryd.pinned (.plain (OpenSpec.ofChange podSumsSpec)) podSumsCard

/-- THE TIED CARD OF 'bilgelaw12.PodKeeps'. -/
def podKeepsCard : Claim7 := { stood := { row := podKeepsRow, standIns := [], harness := (true, "442f36e93010854482d9627860fda205e2f9ef3e30a6ea55fa25e120498d5944"), looks := false }, kinds := [], alts := [], laidByText := true, laidKinds := [.data, .pinned], laidTests := true, laidLooks := .later }
def PodKeepsCardSaid : Prop := Claim7.holds Tryd.pinned (.plain (OpenSpec.ofChange podKeepsSpec)) podKeepsCard

/-- THE TIED CARD OF 'bilgelaw12.PodUnlike'. -/
def podUnlikeCard : Claim7 := { stood := { row := podUnlikeRow, standIns := [], harness := (true, "442f36e93010854482d9627860fda205e2f9ef3e30a6ea55fa25e120498d5944"), looks := false }, kinds := [], alts := [], laidByText := true, laidKinds := [.data, .pinned], laidTests := true, laidLooks := .later }
def PodUnlikeCardSaid : Prop := Claim7.holds Tryd.pinned (.plain (OpenSpec.ofChange podUnlikeSpec)) podUnlikeCard

/-- THE SECOND FORM's CARD OF 'bilgelaw12.PodPuts'. -/
def podPutsUptoCard : Claim7 := { stood := { row := podPutsUptoRow, standIns := [], harness := (true, "442f36e93010854482d9627860fda205e2f9ef3e30a6ea55fa25e120498d5944"), looks := false }, kinds := [], alts := [], laidByText := true, laidKinds := [.data, .pinned], laidTests := true, laidLooks := .later }
def PodPutsUptoCardSaid : Prop := Claim7.holds Tryd.pinned (.plain (OpenSpec.upto podPutsSpec)) podPutsUptoCard

/-- THE SECOND FORM's CARD OF 'bilgelaw12.PodBack'. -/
def podBackUptoCard : Claim7 := { stood := { row := podBackUptoRow, standIns := [], harness := (true, "442f36e93010854482d9627860fda205e2f9ef3e30a6ea55fa25e120498d5944"), looks := false }, kinds := [], alts := [], laidByText := true, laidKinds := [.data, .pinned], laidTests := true, laidLooks := .later }
def PodBackUptoCardSaid : Prop := Claim7.holds Tryd.pinned (.plain (OpenSpec.upto podBackSpec)) podBackUptoCard

/-- THE SECOND FORM's CARD OF 'bilgelaw12.PodCuts'. -/
def podCutsUptoCard : Claim7 := { stood := { row := podCutsUptoRow, standIns := [], harness := (true, "442f36e93010854482d9627860fda205e2f9ef3e30a6ea55fa25e120498d5944"), looks := false }, kinds := [], alts := [], laidByText := true, laidKinds := [.data, .pinned], laidTests := true, laidLooks := .later }
def PodCutsUptoCardSaid : Prop := Claim7.holds Tryd.pinned (.plain (OpenSpec.upto podCutsSpec)) podCutsUptoCard

/-- THE SECOND FORM's CARD OF 'bilgelaw12.PodSums'. -/
def podSumsUptoCard : Claim7 := { stood := { row := podSumsUptoRow, standIns := [], harness := (true, "442f36e93010854482d9627860fda205e2f9ef3e30a6ea55fa25e120498d5944"), looks := false }, kinds := [], alts := [], laidByText := true, laidKinds := [.data, .pinned], laidTests := true, laidLooks := .later }
def PodSumsUptoCardSaid : Prop := Claim7.holds Tryd.pinned (.plain (OpenSpec.upto podSumsSpec)) podSumsUptoCard

/-- THE SECOND FORM's CARD OF 'bilgelaw12.PodKeeps'. -/
def podKeepsUptoCard : Claim7 := { stood := { row := podKeepsUptoRow, standIns := [], harness := (true, "442f36e93010854482d9627860fda205e2f9ef3e30a6ea55fa25e120498d5944"), looks := false }, kinds := [], alts := [], laidByText := true, laidKinds := [.data, .pinned], laidTests := true, laidLooks := .later }
def PodKeepsUptoCardSaid : Prop := Claim7.holds Tryd.pinned (.plain (OpenSpec.upto podKeepsSpec)) podKeepsUptoCard

/-- THE SECOND FORM's CARD OF 'bilgelaw12.PodUnlike'. -/
def podUnlikeUptoCard : Claim7 := { stood := { row := podUnlikeUptoRow, standIns := [], harness := (true, "442f36e93010854482d9627860fda205e2f9ef3e30a6ea55fa25e120498d5944"), looks := false }, kinds := [], alts := [], laidByText := true, laidKinds := [.data, .pinned], laidTests := true, laidLooks := .later }
def PodUnlikeUptoCardSaid : Prop := Claim7.holds Tryd.pinned (.plain (OpenSpec.upto podUnlikeSpec)) podUnlikeUptoCard
end Rows
end Go.Proofs.YtjngkmfkgbcjjaaDoor
