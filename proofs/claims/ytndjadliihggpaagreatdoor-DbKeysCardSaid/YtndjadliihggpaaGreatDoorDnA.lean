/- A part of the proof: what a machine of our own over the model's code answers is what the model does; no condition. -/
import Derived.Test.YtndjadliihggpaaGreatDoorDkA
set_option linter.all false
open Go Go.Av Go.Proofs
set_option maxRecDepth 1000000
set_option linter.all false
namespace Go.Av
theorem ck_0_0 (K : Nat → Int) (hK : Rise 0 K) : okP 0 0 8 K hK = true := by kernel_rfl
end Go.Av


open Go Go.Av Go.Proofs
set_option maxRecDepth 1000000
set_option linter.all false
namespace Go.Av
theorem ck_1_0 (K : Nat → Int) (hK : Rise 1 K) : okP 1 0 8 K hK = true := by kernel_rfl
end Go.Av


open Go Go.Av Go.Proofs
set_option maxRecDepth 1000000
set_option linter.all false
namespace Go.Av
theorem ck_2_0 (K : Nat → Int) (hK : Rise 2 K) : okP 2 0 8 K hK = true := by kernel_rfl
end Go.Av


open Go Go.Av Go.Proofs
set_option maxRecDepth 1000000
set_option linter.all false
namespace Go.Av
theorem ck_3_0 (K : Nat → Int) (hK : Rise 3 K) : okP 3 0 8 K hK = true := by kernel_rfl
end Go.Av


open Go Go.Av Go.Proofs
set_option maxRecDepth 1000000
set_option linter.all false
namespace Go.Av
theorem ck_4_0 (K : Nat → Int) (hK : Rise 4 K) : okP 4 0 8 K hK = true := by kernel_rfl
end Go.Av


open Go Go.Av Go.Proofs
set_option maxRecDepth 1000000
set_option linter.all false
namespace Go.Av
theorem ck_4_8 (K : Nat → Int) (hK : Rise 4 K) : okP 4 8 8 K hK = true := by kernel_rfl
end Go.Av


open Go Go.Av Go.Proofs
set_option maxRecDepth 1000000
set_option linter.all false
namespace Go.Av
theorem ck_5_0 (K : Nat → Int) (hK : Rise 5 K) : okP 5 0 8 K hK = true := by kernel_rfl
end Go.Av


open Go Go.Av Go.Proofs
set_option maxRecDepth 1000000
set_option linter.all false
namespace Go.Av
theorem ck_5_8 (K : Nat → Int) (hK : Rise 5 K) : okP 5 8 8 K hK = true := by kernel_rfl
end Go.Av


open Go Go.Av Go.Proofs
set_option maxRecDepth 1000000
set_option linter.all false
namespace Go.Av
theorem ck_6_0 (K : Nat → Int) (hK : Rise 6 K) : okP 6 0 8 K hK = true := by kernel_rfl
end Go.Av


open Go Go.Av Go.Proofs
set_option maxRecDepth 1000000
set_option linter.all false
namespace Go.Av
theorem ck_6_8 (K : Nat → Int) (hK : Rise 6 K) : okP 6 8 8 K hK = true := by kernel_rfl
end Go.Av


open Go Go.Av Go.Proofs
set_option maxRecDepth 1000000
set_option linter.all false
namespace Go.Av
theorem ck_7_0 (K : Nat → Int) (hK : Rise 7 K) : okP 7 0 8 K hK = true := by kernel_rfl
end Go.Av
