/- A part of the proof: what a machine of our own over the model's code answers is what the model does; no condition. -/
import Derived.Test.YtglejgncbghngaaGreatDoorDoB
set_option linter.all false
open Go Go.Av Go.Sy Go.Proofs
set_option maxRecDepth 1000000
set_option linter.all false
noncomputable section
namespace Go.Sy
theorem lawO_den (preK : List DV → Bool) (fK : List DV → List D) (preO : List D → Bool) (fO : List D → List (List D)) (wOk : Int → Int → Bool) (wI : Int → Int → Int) [Tok] (N : Nat) (n : Int) (ls : List (List D)) :
    codeS Tryz.prog (ctL preK fK preO fO wOk wI) hsL N 9 4 [.i .i64 n, .l 3 false ls] [] (kR (.b false)) = lawO preK fK preO fO wOk wI N n ls := by kernel_rfl
end Go.Sy
