/- A part of the proof: what a machine of our own over the model's code answers is what the model does; no condition. -/
import Derived.Test.YtndjadliihggpaaGreatDoorEnM
set_option linter.all false
open Go Go.Av Go.Proofs
set_option maxRecDepth 1000000
set_option linter.all false
namespace Go.Av
noncomputable def fsDrT [Tok] (l : List Rem) (k : Nat) : Option AFun := ifb (Nat.beq k 10) (some (.sem (withinL l))) (fsDr5 k)
end Go.Av
