/- A part of the proof of ParseFits's card: walks of the functions that it calls, and plain lemmas: WEqStruct. No condition of its own. -/
import Derived.Test.YtajcnjdinmgpjaaGreatDoorMParseFitswWords
import Derived.Laws.StructEq
set_option linter.unusedVariables false
set_option linter.unusedSimpArgs false
/-! ### 53. '==' of structs as_ one Bool -/
namespace Go.Proofs.YtajcnjdinmgpjaaGreatDoorW.PrintWords
open Go.RowKit
section
variable {P : Program} {d : Nat} {xs ys : Array Value} {f : Field} {fs : List Field} {a b : Value} {r s : Bool} {w : World}
end
end Go.Proofs.YtajcnjdinmgpjaaGreatDoorW.PrintWords
