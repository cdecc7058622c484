/- A part of the proof: what a machine of our own over the model's code answers is what the model does; no condition. -/
import Derived.Test.YtndjadliihggpaaGreatDoorDkA
set_option linter.all false
open Go Go.Av Go.Proofs
set_option maxRecDepth 1000000
set_option linter.all false
namespace Go.Av
theorem ck_12_0 (K : Nat → Int) (hK : Rise 12 K) : okP 12 0 8 K hK = true := by kernel_rfl
end Go.Av


open Go Go.Av Go.Proofs
set_option maxRecDepth 1000000
set_option linter.all false
namespace Go.Av
theorem ck_12_8 (K : Nat → Int) (hK : Rise 12 K) : okP 12 8 8 K hK = true := by kernel_rfl
end Go.Av


open Go Go.Av Go.Proofs
set_option maxRecDepth 1000000
set_option linter.all false
namespace Go.Av
theorem ck_12_16 (K : Nat → Int) (hK : Rise 12 K) : okP 12 16 8 K hK = true := by kernel_rfl
end Go.Av


open Go Go.Av Go.Proofs
set_option maxRecDepth 1000000
set_option linter.all false
namespace Go.Av
theorem ck_12_24 (K : Nat → Int) (hK : Rise 12 K) : okP 12 24 8 K hK = true := by kernel_rfl
end Go.Av


open Go Go.Av Go.Proofs
set_option maxRecDepth 1000000
set_option linter.all false
namespace Go.Av
theorem ck_13_0 (K : Nat → Int) (hK : Rise 13 K) : okP 13 0 8 K hK = true := by kernel_rfl
end Go.Av


open Go Go.Av Go.Proofs
set_option maxRecDepth 1000000
set_option linter.all false
namespace Go.Av
theorem ck_13_8 (K : Nat → Int) (hK : Rise 13 K) : okP 13 8 8 K hK = true := by kernel_rfl
end Go.Av
