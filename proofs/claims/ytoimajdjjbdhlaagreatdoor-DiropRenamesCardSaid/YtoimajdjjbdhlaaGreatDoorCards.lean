/-
  DERIVED. GIVEN WITH THE SEED: THE CARDS: each row of YtoimajdjjbdhlaaGreatDoorRows.lean that lists a variable, with what it lists TIED to the program's text (the seventh form; the later family's looks); each row that meets fmt, with fmt's text TOLD by the authors' own Lean function (tested against real Go, not proved from fmt's source: count such statements apart). THE CARD IS WHAT COUNTS. Prove the row's statement (the work); the ties are given (YtoimajdjjbdhlaaGreatDoorTie.lean); close each card by the builder's one call (the guide's Derived/Test/ToyasCard.lean, 'card_holds'). Laid BY PROGRAM, IN A SANDBOX (cutbox-door.mjs). By AI agents, Wed Nov 11 2026. No macro, syntax, notation, axiom, sorry.
-/
import Derived.Test.YtoimajdjjbdhlaaGreatDoorRows
import GoSem.ClaimSeven
namespace Go.Proofs.YtoimajdjjbdhlaaGreatDoor
namespace Rows

/-- THE TIED CARD OF 'warrenlaw13.DiropRenames'. -/
def diropRenamesCard : Claim7 := { stood := { row := diropRenamesRow, standIns := [], harness := (true, "6f9327e67ccd088d683bc836a0eb99cb8d4dd635b59b4098b0207e6d10974b5f"), looks := false }, kinds := [], alts := [], laidByText := true, laidKinds := [.data, .pinned], laidTests := true, laidLooks := .later }
def DiropRenamesCardSaid : Prop := Claim7.holds Tryz.pinned (.plain (OpenSpec.ofChange diropRenamesSpec)) diropRenamesCard

/-- THE TIED CARD OF 'warrenlaw13.DiropNumbers'. -/
def diropNumbersCard : Claim7 := { stood := { row := diropNumbersRow, standIns := [], harness := (true, "6f9327e67ccd088d683bc836a0eb99cb8d4dd635b59b4098b0207e6d10974b5f"), looks := false }, kinds := [], alts := [], laidByText := true, laidKinds := [.data, .pinned], laidTests := true, laidLooks := .later }
def DiropNumbersCardSaid : Prop := Claim7.holds Tryz.pinned (.plain (OpenSpec.ofChange diropNumbersSpec)) diropNumbersCard

/-- THE TIED CARD OF 'warrenlaw13.DiropPlays'. -/
def diropPlaysCard : Claim7 := { stood := { row := diropPlaysRow, standIns := [], harness := (true, "6f9327e67ccd088d683bc836a0eb99cb8d4dd635b59b4098b0207e6d10974b5f"), looks := false }, kinds := [], alts := [], laidByText := true, laidKinds := [.data, .pinned], laidTests := true, laidLooks := .later }
def DiropPlaysCardSaid : Prop := Claim7.holds Tryz.pinned (.plain (OpenSpec.ofChange diropPlaysSpec)) diropPlaysCard

/-- THE TIED CARD OF 'warrenlaw13.DiropRefused'. -/
def diropRefusedCard : Claim7 := { stood := { row := diropRefusedRow, standIns := [], harness := (true, "6f9327e67ccd088d683bc836a0eb99cb8d4dd635b59b4098b0207e6d10974b5f"), looks := false }, kinds := [], alts := [], laidByText := true, laidKinds := [.data, .pinned], laidTests := true, laidLooks := .later }
def DiropRefusedCardSaid : Prop := Claim7.holds Tryz.pinned (.plain (OpenSpec.ofChange diropRefusedSpec)) diropRefusedCard

/-- THE TIED CARD OF 'warrenlaw13.DiropAsks'. -/
def diropAsksCard : Claim7 := { stood := { row := diropAsksRow, standIns := [], harness := (true, "6f9327e67ccd088d683bc836a0eb99cb8d4dd635b59b4098b0207e6d10974b5f"), looks := false }, kinds := [], alts := [], laidByText := true, laidKinds := [.data, .pinned], laidTests := true, laidLooks := .later }
def DiropAsksCardSaid : Prop := Claim7.holds Tryz.pinned (.plain (OpenSpec.ofChange diropAsksSpec)) diropAsksCard

/-- THE TIED CARD OF 'warrenlaw13.DiropMakes'. -/
def diropMakesCard : Claim7 := { stood := { row := diropMakesRow, standIns := [], harness := (true, "6f9327e67ccd088d683bc836a0eb99cb8d4dd635b59b4098b0207e6d10974b5f"), looks := false }, kinds := [], alts := [], laidByText := true, laidKinds := [.data, .pinned], laidTests := true, laidLooks := .later }
def DiropMakesCardSaid : Prop := Claim7.holds Tryz.pinned (.plain (OpenSpec.ofChange diropMakesSpec)) diropMakesCard

/-- THE SECOND FORM's CARD OF 'warrenlaw13.DiropRenames'. -/
def diropRenamesUptoCard : Claim7 := { stood := { row := diropRenamesUptoRow, standIns := [], harness := (true, "6f9327e67ccd088d683bc836a0eb99cb8d4dd635b59b4098b0207e6d10974b5f"), looks := false }, kinds := [], alts := [], laidByText := true, laidKinds := [.data, .pinned], laidTests := true, laidLooks := .later }
def DiropRenamesUptoCardSaid : Prop := Claim7.holds Tryz.pinned (.plain (OpenSpec.upto diropRenamesSpec)) diropRenamesUptoCard

/-- THE SECOND FORM's CARD OF 'warrenlaw13.DiropNumbers'. -/
def diropNumbersUptoCard : Claim7 := { stood := { row := diropNumbersUptoRow, standIns := [], harness := (true, "6f9327e67ccd088d683bc836a0eb99cb8d4dd635b59b4098b0207e6d10974b5f"), looks := false }, kinds := [], alts := [], laidByText := true, laidKinds := [.data, .pinned], laidTests := true, laidLooks := .later }
def DiropNumbersUptoCardSaid : Prop := Claim7.holds Tryz.pinned (.plain (OpenSpec.upto diropNumbersSpec)) diropNumbersUptoCard

/-- THE SECOND FORM's CARD OF 'warrenlaw13.DiropPlays'. -/
def diropPlaysUptoCard : Claim7 := { stood := { row := diropPlaysUptoRow, standIns := [], harness := (true, "6f9327e67ccd088d683bc836a0eb99cb8d4dd635b59b4098b0207e6d10974b5f"), looks := false }, kinds := [], alts := [], laidByText := true, laidKinds := [.data, .pinned], laidTests := true, laidLooks := .later }
def DiropPlaysUptoCardSaid : Prop := Claim7.holds Tryz.pinned (.plain (OpenSpec.upto diropPlaysSpec)) diropPlaysUptoCard

/-- THE SECOND FORM's CARD OF 'warrenlaw13.DiropRefused'. -/
def diropRefusedUptoCard : Claim7 := { stood := { row := diropRefusedUptoRow, standIns := [], harness := (true, "6f9327e67ccd088d683bc836a0eb99cb8d4dd635b59b4098b0207e6d10974b5f"), looks := false }, kinds := [], alts := [], laidByText := true, laidKinds := [.data, .pinned], laidTests := true, laidLooks := .later }
def DiropRefusedUptoCardSaid : Prop := Claim7.holds Tryz.pinned (.plain (OpenSpec.upto diropRefusedSpec)) diropRefusedUptoCard

/-- THE SECOND FORM's CARD OF 'warrenlaw13.DiropAsks'. -/
def diropAsksUptoCard : Claim7 := { stood := { row := diropAsksUptoRow, standIns := [], harness := (true, "6f9327e67ccd088d683bc836a0eb99cb8d4dd635b59b4098b0207e6d10974b5f"), looks := false }, kinds := [], alts := [], laidByText := true, laidKinds := [.data, .pinned], laidTests := true, laidLooks := .later }
def DiropAsksUptoCardSaid : Prop := Claim7.holds Tryz.pinned (.plain (OpenSpec.upto diropAsksSpec)) diropAsksUptoCard

/-- THE SECOND FORM's CARD OF 'warrenlaw13.DiropMakes'. -/
def diropMakesUptoCard : Claim7 := { stood := { row := diropMakesUptoRow, standIns := [], harness := (true, "6f9327e67ccd088d683bc836a0eb99cb8d4dd635b59b4098b0207e6d10974b5f"), looks := false }, kinds := [], alts := [], laidByText := true, laidKinds := [.data, .pinned], laidTests := true, laidLooks := .later }
def DiropMakesUptoCardSaid : Prop := Claim7.holds Tryz.pinned (.plain (OpenSpec.upto diropMakesSpec)) diropMakesUptoCard
end Rows
end Go.Proofs.YtoimajdjjbdhlaaGreatDoor
