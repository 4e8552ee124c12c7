/- A part of the proof of ParseFits's card: walks of the functions that it calls, and plain lemmas: WInv. No condition of its own. -/
import Derived.Test.YtajcnjdinmgpjaaGreatDoorMParseFitswTab
set_option linter.unusedVariables false
set_option linter.unusedSimpArgs false
/-! ### 57. A region of open order by ONE relation over what is listed so far: each operation is shown once, whatever came up before it -/
namespace Go.Proofs.YtajcnjdinmgpjaaGreatDoorW.PrintLast
section
variable {P : Program} {ops : Array Oper} {Q : Exit → Act → World → Prop} {md : Region.Mode} {T : Bool × List (List Nat × List Nat)} {B : List Nat} {O : List Nat} {b : Nat → Bool} {i j n : Nat}
/-! The frame: what is listed has its destination filled. -/
end
end Go.Proofs.YtajcnjdinmgpjaaGreatDoorW.PrintLast
