/- A part of the proof of ParseFits's card: walks of the functions that it calls, and plain lemmas: WKept. No condition of its own. -/
import Derived.Test.YtajcnjdinmgpjaaGreatDoorMParseFitswFoot
set_option linter.unusedVariables false
set_option linter.unusedSimpArgs false
/-! ### 45. What a call keeps: all but the blocks of S (the rows that it was given to write) and what is new since -/
namespace Go.Proofs.YtajcnjdinmgpjaaGreatDoorW.PrintWords
open Go.RowKit
section
variable {w W W2 : World} {S S2 S' : Nat → Prop}
end
namespace Kd
section
variable {α : Type} {d : Kd α} {e base n c : Nat} {ok oki S S2 : Nat → Prop} {w w0 W W1 W2 : World} {v : Value} {A : Option Addr} {xs : List α} {i : Int} {cs : List Value}
end
end Kd
end Go.Proofs.YtajcnjdinmgpjaaGreatDoorW.PrintWords
