/- A part of the proof of ParseFits's card: walks of the functions that it calls, and plain lemmas: WQPut. No condition of its own. -/
import Derived.Test.YtajcnjdinmgpjaaGreatDoorMParseFitswWords
import Derived.Test.YtajcnjdinmgpjaaGreatDoorMParseFitswLast
set_option linter.unusedVariables false
set_option linter.unusedSimpArgs false
/-! ### 39. Stores into a row that may begin inside its block (Q): Q_form, Q_elem, Q_seg; scalars: Q_cell, Q_putg -/
namespace Go.Proofs.YtajcnjdinmgpjaaGreatDoorW.PrintWords
open Go.RowKit
namespace Kd
section
variable {α : Type} {d : Kd α} {e base g o n cap : Nat} {ok okp : Nat → Prop} {w W : World} {v : Value} {xs : List α}
end
section
variable {α : Type} {enc : α → Value} {h1 : ∀ x, (enc x).oneCell' = true} {e base g o n cap : Nat} {ok : Nat → Prop} {W : World} {xs : List α}
end
end Kd
end Go.Proofs.YtajcnjdinmgpjaaGreatDoorW.PrintWords
