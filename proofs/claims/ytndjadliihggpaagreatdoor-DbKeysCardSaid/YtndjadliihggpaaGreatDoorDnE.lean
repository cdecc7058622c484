/- A part of the proof: what a machine of our own over the model's code answers is what the model does; no condition. -/
import Derived.Test.YtndjadliihggpaaGreatDoorDkA
set_option linter.all false
open Go Go.Av Go.Proofs
set_option maxRecDepth 1000000
set_option linter.all false
namespace Go.Av
theorem ck_13_16 (K : Nat → Int) (hK : Rise 13 K) : okP 13 16 8 K hK = true := by kernel_rfl
end Go.Av


open Go Go.Av Go.Proofs
set_option maxRecDepth 1000000
set_option linter.all false
namespace Go.Av
theorem ck_13_24 (K : Nat → Int) (hK : Rise 13 K) : okP 13 24 8 K hK = true := by kernel_rfl
end Go.Av


open Go Go.Av Go.Proofs
set_option maxRecDepth 1000000
set_option linter.all false
namespace Go.Av
theorem ck_14_0 (K : Nat → Int) (hK : Rise 14 K) : okP 14 0 8 K hK = true := by kernel_rfl
end Go.Av


open Go Go.Av Go.Proofs
set_option maxRecDepth 1000000
set_option linter.all false
namespace Go.Av
theorem ck_14_8 (K : Nat → Int) (hK : Rise 14 K) : okP 14 8 8 K hK = true := by kernel_rfl
end Go.Av


open Go Go.Av Go.Proofs
set_option maxRecDepth 1000000
set_option linter.all false
namespace Go.Av
theorem ck_14_16 (K : Nat → Int) (hK : Rise 14 K) : okP 14 16 8 K hK = true := by kernel_rfl
end Go.Av


open Go Go.Av Go.Proofs
set_option maxRecDepth 1000000
set_option linter.all false
namespace Go.Av
theorem ck_14_24 (K : Nat → Int) (hK : Rise 14 K) : okP 14 24 8 K hK = true := by kernel_rfl
end Go.Av
