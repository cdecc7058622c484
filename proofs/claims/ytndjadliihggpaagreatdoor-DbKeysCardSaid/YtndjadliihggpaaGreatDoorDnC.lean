/- A part of the proof: what a machine of our own over the model's code answers is what the model does; no condition. -/
import Derived.Test.YtndjadliihggpaaGreatDoorDkA
set_option linter.all false
open Go Go.Av Go.Proofs
set_option maxRecDepth 1000000
set_option linter.all false
namespace Go.Av
theorem ck_10_0 (K : Nat → Int) (hK : Rise 10 K) : okP 10 0 8 K hK = true := by kernel_rfl
end Go.Av


open Go Go.Av Go.Proofs
set_option maxRecDepth 1000000
set_option linter.all false
namespace Go.Av
theorem ck_10_8 (K : Nat → Int) (hK : Rise 10 K) : okP 10 8 8 K hK = true := by kernel_rfl
end Go.Av


open Go Go.Av Go.Proofs
set_option maxRecDepth 1000000
set_option linter.all false
namespace Go.Av
theorem ck_10_16 (K : Nat → Int) (hK : Rise 10 K) : okP 10 16 8 K hK = true := by kernel_rfl
end Go.Av


open Go Go.Av Go.Proofs
set_option maxRecDepth 1000000
set_option linter.all false
namespace Go.Av
theorem ck_11_0 (K : Nat → Int) (hK : Rise 11 K) : okP 11 0 8 K hK = true := by kernel_rfl
end Go.Av


open Go Go.Av Go.Proofs
set_option maxRecDepth 1000000
set_option linter.all false
namespace Go.Av
theorem ck_11_8 (K : Nat → Int) (hK : Rise 11 K) : okP 11 8 8 K hK = true := by kernel_rfl
end Go.Av


open Go Go.Av Go.Proofs
set_option maxRecDepth 1000000
set_option linter.all false
namespace Go.Av
theorem ck_11_16 (K : Nat → Int) (hK : Rise 11 K) : okP 11 16 8 K hK = true := by kernel_rfl
end Go.Av
