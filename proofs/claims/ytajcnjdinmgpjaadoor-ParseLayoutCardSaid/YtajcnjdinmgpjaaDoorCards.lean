/-
  DERIVED. GIVEN WITH THE SEED: THE CARDS: each row of YtajcnjdinmgpjaaDoorRows.lean that lists a variable, with what it lists TIED to the program's text (the seventh form; the later family's looks); each row that meets fmt, with fmt's text TOLD by the authors' own Lean function (tested against real Go, not proved from fmt's source: count such statements apart). THE CARD IS WHAT COUNTS. Prove the row's statement (the work); the ties are given (YtajcnjdinmgpjaaDoorTie.lean); close each card by the builder's one call (the guide's Derived/Test/ToyasCard.lean, 'card_holds'). Laid BY PROGRAM, IN A SANDBOX (cutbox-door.mjs). By AI agents, Wed Nov 11 2026. No macro, syntax, notation, axiom, sorry.
-/
import Derived.Test.YtajcnjdinmgpjaaDoorRows
import GoSem.ClaimSeven
namespace Go.Proofs.YtajcnjdinmgpjaaDoor
namespace Rows

/-- THE TIED CARD OF 'gossamerlaw03.ParsePrefix'. -/
def parsePrefixCard : Claim7 := { stood := { row := parsePrefixRow, standIns := [], harness := (true, "37c13a524902cddb34664994cab7e408ebb32440a189004657748fc639688106"), looks := true }, kinds := [], alts := [], laidByText := true, laidKinds := [.data, .data, .data, .data, .sentinel, .sentinel, .pinned], laidTests := true, laidLooks := .later }
def ParsePrefixCardSaid : Prop := Claim7.holds Tryd.pinned (.plain (OpenSpec.ofChange parsePrefixSpec)) parsePrefixCard

/-- THE TIED CARD OF 'gossamerlaw03.ParseLayout'. -/
def parseLayoutCard : Claim7 := { stood := { row := parseLayoutRow, standIns := [], harness := (true, "37c13a524902cddb34664994cab7e408ebb32440a189004657748fc639688106"), looks := true }, kinds := [], alts := [], laidByText := true, laidKinds := [.data, .data, .data, .data, .sentinel, .sentinel, .pinned], laidTests := true, laidLooks := .later }
def ParseLayoutCardSaid : Prop := Claim7.holds Tryd.pinned (.plain (OpenSpec.ofChange parseLayoutSpec)) parseLayoutCard

/-- THE TIED CARD OF 'gossamerlaw02.TreeAlts'. -/
def treeAltsCard : Claim7 := { stood := { row := treeAltsRow, standIns := [], harness := (true, "37c13a524902cddb34664994cab7e408ebb32440a189004657748fc639688106"), looks := true }, kinds := [], alts := [], laidByText := true, laidKinds := [.data, .data, .data, .data, .sentinel, .sentinel, .listed, .data, .pinned], laidTests := true, laidLooks := .later }
def TreeAltsCardSaid : Prop := Claim7.holds Tryd.pinned (.plain (OpenSpec.ofChange treeAltsSpec)) treeAltsCard

/-- THE SECOND FORM's CARD OF 'gossamerlaw03.ParsePrefix'. -/
def parsePrefixUptoCard : Claim7 := { stood := { row := parsePrefixUptoRow, standIns := [], harness := (true, "37c13a524902cddb34664994cab7e408ebb32440a189004657748fc639688106"), looks := true }, kinds := [], alts := [], laidByText := true, laidKinds := [.data, .data, .data, .data, .sentinel, .sentinel, .pinned], laidTests := true, laidLooks := .later }
def ParsePrefixUptoCardSaid : Prop := Claim7.holds Tryd.pinned (.plain (OpenSpec.upto parsePrefixSpec)) parsePrefixUptoCard

/-- THE SECOND FORM's CARD OF 'gossamerlaw03.ParseLayout'. -/
def parseLayoutUptoCard : Claim7 := { stood := { row := parseLayoutUptoRow, standIns := [], harness := (true, "37c13a524902cddb34664994cab7e408ebb32440a189004657748fc639688106"), looks := true }, kinds := [], alts := [], laidByText := true, laidKinds := [.data, .data, .data, .data, .sentinel, .sentinel, .pinned], laidTests := true, laidLooks := .later }
def ParseLayoutUptoCardSaid : Prop := Claim7.holds Tryd.pinned (.plain (OpenSpec.upto parseLayoutSpec)) parseLayoutUptoCard

/-- THE SECOND FORM's CARD OF 'gossamerlaw02.TreeAlts'. -/
def treeAltsUptoCard : Claim7 := { stood := { row := treeAltsUptoRow, standIns := [], harness := (true, "37c13a524902cddb34664994cab7e408ebb32440a189004657748fc639688106"), looks := true }, kinds := [], alts := [], laidByText := true, laidKinds := [.data, .data, .data, .data, .sentinel, .sentinel, .listed, .data, .pinned], laidTests := true, laidLooks := .later }
def TreeAltsUptoCardSaid : Prop := Claim7.holds Tryd.pinned (.plain (OpenSpec.upto treeAltsSpec)) treeAltsUptoCard
end Rows
end Go.Proofs.YtajcnjdinmgpjaaDoor
