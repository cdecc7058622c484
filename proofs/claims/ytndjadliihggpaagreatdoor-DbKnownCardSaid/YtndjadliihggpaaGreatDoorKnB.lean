/- A part of the proof: what a machine of our own over the model's code answers is what the model does; no condition. -/
import Derived.Test.YtndjadliihggpaaGreatDoorKnA
set_option linter.all false
open Go Go.Av Go.Proofs
set_option maxRecDepth 1000000
namespace Go.Av
variable [Tok]
theorem c11_0 : allR (checkE Tryz.prog fs1 100000 GG TT 20 11 (.tu 12)) l11_0 = true := by kernel_rfl
end Go.Av


open Go Go.Av Go.Proofs
set_option maxRecDepth 1000000
namespace Go.Av
variable [Tok]
theorem c11_1 : allR (checkE Tryz.prog fs1 100000 GG TT 20 11 (.tu 12)) l11_1 = true := by kernel_rfl
end Go.Av


open Go Go.Av Go.Proofs
set_option maxRecDepth 1000000
namespace Go.Av
variable [Tok]
theorem c11_2 : allR (checkE Tryz.prog fs1 100000 GG TT 20 11 (.tu 12)) l11_2 = true := by kernel_rfl
end Go.Av
