/-
  DERIVED. GIVEN WITH THE SEED: THE CARDS: each row of YtajcnjdinmgpjaaGreatDoorRows.lean that lists a variable, with what it lists TIED to the program's text (the seventh form; the later family's looks); each row that meets fmt, with fmt's text TOLD by the authors' own Lean function (tested against real Go, not proved from fmt's source: count such statements apart). THE CARD IS WHAT COUNTS. Prove the row's statement (the work); the ties are given (YtajcnjdinmgpjaaGreatDoorTie.lean); close each card by the builder's one call (the guide's Derived/Test/ToyasCard.lean, 'card_holds'). Laid BY PROGRAM, IN A SANDBOX (cutbox-door.mjs). By AI agents, Wed Nov 11 2026. No macro, syntax, notation, axiom, sorry.
-/
import Derived.Test.YtajcnjdinmgpjaaGreatDoorRows
import GoSem.ClaimSeven
namespace Go.Proofs.YtajcnjdinmgpjaaGreatDoor
namespace Rows

/-- THE TIED CARD OF 'gossamerlaw03.ParseFits'. -/
def parseFitsCard : Claim7 := { stood := { row := parseFitsRow, standIns := [], harness := (true, "f7c085987a36cae5bb41904f7e2cc7106001e5eff3f2ec20c8994748717555fb"), looks := true }, kinds := [], alts := [], laidByText := true, laidKinds := [.data, .data, .data, .data, .sentinel, .sentinel, .pinned], laidTests := true, laidLooks := .later }
def ParseFitsCardSaid : Prop := Claim7.holds Tryz.pinned (.plain (OpenSpec.ofChange parseFitsSpec)) parseFitsCard

/-- THE TIED CARD OF 'gossamerlaw03.ParseRound'. -/
def parseRoundCard : Claim7 := { stood := { row := parseRoundRow, standIns := [], harness := (true, "f7c085987a36cae5bb41904f7e2cc7106001e5eff3f2ec20c8994748717555fb"), looks := true }, kinds := [], alts := [], laidByText := true, laidKinds := [.data, .data, .data, .data, .sentinel, .sentinel, .pinned], laidTests := true, laidLooks := .later }
def ParseRoundCardSaid : Prop := Claim7.holds Tryz.pinned (.plain (OpenSpec.ofChange parseRoundSpec)) parseRoundCard

/-- THE SECOND FORM's CARD OF 'gossamerlaw03.ParseFits'. -/
def parseFitsUptoCard : Claim7 := { stood := { row := parseFitsUptoRow, standIns := [], harness := (true, "f7c085987a36cae5bb41904f7e2cc7106001e5eff3f2ec20c8994748717555fb"), looks := true }, kinds := [], alts := [], laidByText := true, laidKinds := [.data, .data, .data, .data, .sentinel, .sentinel, .pinned], laidTests := true, laidLooks := .later }
def ParseFitsUptoCardSaid : Prop := Claim7.holds Tryz.pinned (.plain (OpenSpec.upto parseFitsSpec)) parseFitsUptoCard

/-- THE SECOND FORM's CARD OF 'gossamerlaw03.ParseRound'. -/
def parseRoundUptoCard : Claim7 := { stood := { row := parseRoundUptoRow, standIns := [], harness := (true, "f7c085987a36cae5bb41904f7e2cc7106001e5eff3f2ec20c8994748717555fb"), looks := true }, kinds := [], alts := [], laidByText := true, laidKinds := [.data, .data, .data, .data, .sentinel, .sentinel, .pinned], laidTests := true, laidLooks := .later }
def ParseRoundUptoCardSaid : Prop := Claim7.holds Tryz.pinned (.plain (OpenSpec.upto parseRoundSpec)) parseRoundUptoCard
end Rows
end Go.Proofs.YtajcnjdinmgpjaaGreatDoor
