/- A part of the proof: what a machine of our own over the model's code answers is what the model does; no condition. -/
import Derived.Test.YtndjadliihggpaaGreatDoorDkA
set_option linter.all false
open Go Go.Av Go.Proofs
set_option maxRecDepth 1000000
set_option linter.all false
namespace Go.Av
theorem ck_20_0 (K : Nat → Int) (hK : Rise 20 K) : okP 20 0 8 K hK = true := by kernel_rfl
end Go.Av


open Go Go.Av Go.Proofs
set_option maxRecDepth 1000000
set_option linter.all false
namespace Go.Av
theorem ck_20_8 (K : Nat → Int) (hK : Rise 20 K) : okP 20 8 8 K hK = true := by kernel_rfl
end Go.Av
