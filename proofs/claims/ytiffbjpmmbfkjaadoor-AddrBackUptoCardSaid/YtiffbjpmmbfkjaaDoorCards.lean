/-
  DERIVED. GIVEN WITH THE SEED: THE CARDS: each row of YtiffbjpmmbfkjaaDoorRows.lean that lists a variable, with what it lists TIED to the program's text (the seventh form; the later family's looks); each row that meets fmt, with fmt's text TOLD by the authors' own Lean function (tested against real Go, not proved from fmt's source: count such statements apart). THE CARD IS WHAT COUNTS. Prove the row's statement (the work); the ties are given (YtiffbjpmmbfkjaaDoorTie.lean); close each card by the builder's one call (the guide's Derived/Test/ToyasCard.lean, 'card_holds'). Laid BY PROGRAM, IN A SANDBOX (cutbox-door.mjs). By AI agents, Wed Nov 11 2026. No macro, syntax, notation, axiom, sorry.
-/
import Derived.Test.YtiffbjpmmbfkjaaDoorRows
import GoSem.ClaimSeven
namespace Go.Proofs.YtiffbjpmmbfkjaaDoor
namespace Rows

/-- THE TIED CARD OF 'aqueductlaw05.AddrTexts'. -/
def addrTextsCard : Claim7 := { stood := { row := addrTextsRow, standIns := [], harness := (true, "aca30ca0b2d956b79ec6b7a9e9b044c3ee257e43de1b97cb90fd4463683dee7c"), looks := false }, kinds := [], alts := [], laidByText := true, laidKinds := [.data, .pinned], laidTests := true, laidLooks := .later }
def AddrTextsCardSaid : Prop := Claim7.holds Tryd.pinned (.plain (OpenSpec.ofChange addrTextsSpec)) addrTextsCard

/-- THE TIED CARD OF 'aqueductlaw05.AddrKinds'. -/
def addrKindsCard : Claim7 := { stood := { row := addrKindsRow, standIns := [], harness := (true, "aca30ca0b2d956b79ec6b7a9e9b044c3ee257e43de1b97cb90fd4463683dee7c"), looks := false }, kinds := [], alts := [], laidByText := true, laidKinds := [.data, .pinned], laidTests := true, laidLooks := .later }
def AddrKindsCardSaid : Prop := Claim7.holds Tryd.pinned (.plain (OpenSpec.ofChange addrKindsSpec)) addrKindsCard

/-- THE TIED CARD OF 'aqueductlaw05.AddrBack'. -/
def addrBackCard : Claim7 := { stood := { row := addrBackRow, standIns := [], harness := (true, "aca30ca0b2d956b79ec6b7a9e9b044c3ee257e43de1b97cb90fd4463683dee7c"), looks := false }, kinds := [], alts := [], laidByText := true, laidKinds := [.data, .pinned], laidTests := true, laidLooks := .later }
def AddrBackCardSaid : Prop := Claim7.holds Tryd.pinned (.plain (OpenSpec.ofChange addrBackSpec)) addrBackCard

/-- THE TIED CARD OF 'aqueductlaw05.AddrPorts'. -/
def addrPortsCard : Claim7 := { stood := { row := addrPortsRow, standIns := [], harness := (true, "aca30ca0b2d956b79ec6b7a9e9b044c3ee257e43de1b97cb90fd4463683dee7c"), looks := false }, kinds := [], alts := [], laidByText := true, laidKinds := [.data, .pinned], laidTests := true, laidLooks := .later }
def AddrPortsCardSaid : Prop := Claim7.holds Tryd.pinned (.plain (OpenSpec.ofChange addrPortsSpec)) addrPortsCard

/-- THE TIED CARD OF 'aqueductlaw05.AddrBits'. -/
def addrBitsCard : Claim7 := { stood := { row := addrBitsRow, standIns := [], harness := (true, "aca30ca0b2d956b79ec6b7a9e9b044c3ee257e43de1b97cb90fd4463683dee7c"), looks := false }, kinds := [], alts := [], laidByText := true, laidKinds := [.data, .pinned], laidTests := true, laidLooks := .later }
def AddrBitsCardSaid : Prop := Claim7.holds Tryd.pinned (.plain (OpenSpec.ofChange addrBitsSpec)) addrBitsCard

/-- THE SECOND FORM's CARD OF 'aqueductlaw05.AddrTexts'. -/
def addrTextsUptoCard : Claim7 := { stood := { row := addrTextsUptoRow, standIns := [], harness := (true, "aca30ca0b2d956b79ec6b7a9e9b044c3ee257e43de1b97cb90fd4463683dee7c"), looks := false }, kinds := [], alts := [], laidByText := true, laidKinds := [.data, .pinned], laidTests := true, laidLooks := .later }
def AddrTextsUptoCardSaid : Prop := Claim7.holds Tryd.pinned (.plain (OpenSpec.upto addrTextsSpec)) addrTextsUptoCard

/-- THE SECOND FORM's CARD OF 'aqueductlaw05.AddrKinds'. -/
def addrKindsUptoCard : Claim7 := { stood := { row := addrKindsUptoRow, standIns := [], harness := (true, "aca30ca0b2d956b79ec6b7a9e9b044c3ee257e43de1b97cb90fd4463683dee7c"), looks := false }, kinds := [], alts := [], laidByText := true, laidKinds := [.data, .pinned], laidTests := true, laidLooks := .later }
def AddrKindsUptoCardSaid : Prop := Claim7.holds Tryd.pinned (.plain (OpenSpec.upto addrKindsSpec)) addrKindsUptoCard

/-- THE SECOND FORM's CARD OF 'aqueductlaw05.AddrBack'. -/
def addrBackUptoCard : Claim7 := { stood := { row := addrBackUptoRow, standIns := [], harness := (true, "aca30ca0b2d956b79ec6b7a9e9b044c3ee257e43de1b97cb90fd4463683dee7c"), looks := false }, kinds := [], alts := [], laidByText := true, laidKinds := [.data, .pinned], laidTests := true, laidLooks := .later }
def AddrBackUptoCardSaid : Prop := Claim7.holds Tryd.pinned (.plain (OpenSpec.upto addrBackSpec)) addrBackUptoCard

/-- THE SECOND FORM's CARD OF 'aqueductlaw05.AddrPorts'. -/
def addrPortsUptoCard : Claim7 := { stood := { row := addrPortsUptoRow, standIns := [], harness := (true, "aca30ca0b2d956b79ec6b7a9e9b044c3ee257e43de1b97cb90fd4463683dee7c"), looks := false }, kinds := [], alts := [], laidByText := true, laidKinds := [.data, .pinned], laidTests := true, laidLooks := .later }
def AddrPortsUptoCardSaid : Prop := Claim7.holds Tryd.pinned (.plain (OpenSpec.upto addrPortsSpec)) addrPortsUptoCard

/-- THE SECOND FORM's CARD OF 'aqueductlaw05.AddrBits'. -/
def addrBitsUptoCard : Claim7 := { stood := { row := addrBitsUptoRow, standIns := [], harness := (true, "aca30ca0b2d956b79ec6b7a9e9b044c3ee257e43de1b97cb90fd4463683dee7c"), looks := false }, kinds := [], alts := [], laidByText := true, laidKinds := [.data, .pinned], laidTests := true, laidLooks := .later }
def AddrBitsUptoCardSaid : Prop := Claim7.holds Tryd.pinned (.plain (OpenSpec.upto addrBitsSpec)) addrBitsUptoCard
end Rows
end Go.Proofs.YtiffbjpmmbfkjaaDoor
