/- A part of the proof of ParseFits's card: walks of the functions that it calls, and plain lemmas: WInvWords. No condition of its own. -/
import Derived.Test.YtajcnjdinmgpjaaGreatDoorMParseFitswInv
import Derived.Test.YtajcnjdinmgpjaaGreatDoorMParseFitswFootNe
set_option linter.unusedVariables false
set_option linter.unusedSimpArgs false
namespace Go.Proofs.YtajcnjdinmgpjaaGreatDoorW.PrintWords
open Go.RowKit
end Go.Proofs.YtajcnjdinmgpjaaGreatDoorW.PrintWords
namespace Go.Proofs.YtajcnjdinmgpjaaGreatDoorW.PrintLast
section
variable {ops : Array Oper} {a : Act} {o og : Oper} {g : Nat} {t : Tmp} {u : Bool}
end
end Go.Proofs.YtajcnjdinmgpjaaGreatDoorW.PrintLast
