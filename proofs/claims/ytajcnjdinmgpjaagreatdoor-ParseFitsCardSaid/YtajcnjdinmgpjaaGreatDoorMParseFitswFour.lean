/- A part of the proof of ParseFits's card: walks of the functions that it calls, and plain lemmas: WFour. No condition of its own. -/
import Derived.Test.YtajcnjdinmgpjaaGreatDoorMParseFitswTab
set_option linter.unusedVariables false
set_option linter.unusedSimpArgs false
/-! ### 56. Four, five, six operations that may come up next, in any order -/
namespace Go.Proofs.YtajcnjdinmgpjaaGreatDoorW.PrintLast
section
variable {P : Program} {ops : Array Oper} {Q : Exit → Act → World → Prop} {md : Region.Mode} {S : World → Prop} {ds : List Nat} {T : Bool × List (List Nat × List Nat)}
end
end Go.Proofs.YtajcnjdinmgpjaaGreatDoorW.PrintLast
