/- A part of the proof of ParseFits's card: walks of the functions that it calls, and plain lemmas: WFootNe. No condition of its own. -/
import Derived.Test.YtajcnjdinmgpjaaGreatDoorMParseFitswN
set_option linter.unusedVariables false
set_option linter.unusedSimpArgs false
/-! ### 52. A row that stays read whatever happens to a block (a set of blocks) doesn't lie there -/
namespace Go.Proofs.YtajcnjdinmgpjaaGreatDoorW.PrintWords
open Go.RowKit
namespace Kd
section
variable {α : Type} {d : Kd α} {W : World} {g n : Nat} {S ok : Nat → Prop} {A : Option Addr} {ad : Addr} {xs : List α}
end
end Kd
end Go.Proofs.YtajcnjdinmgpjaaGreatDoorW.PrintWords
