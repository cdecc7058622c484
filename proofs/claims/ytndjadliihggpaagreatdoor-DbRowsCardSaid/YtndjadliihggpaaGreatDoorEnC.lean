/- A part of the proof: what a machine of our own over the model's code answers is what the model does; no condition. -/
import Derived.Test.YtndjadliihggpaaGreatDoorEnB
set_option linter.all false
open Go Go.Av Go.Proofs
set_option maxRecDepth 1000000
set_option linter.all false
namespace Go.Av
variable [Tok]
theorem c12_0 : allT (checkE Tryz.prog fsDr3 100000 GG TTDr 20 12 (.tu 11)) l12_0 = true := by kernel_rfl
end Go.Av


open Go Go.Av Go.Proofs
set_option maxRecDepth 1000000
set_option linter.all false
namespace Go.Av
variable [Tok]
theorem c12_1 : allT (checkE Tryz.prog fsDr3 100000 GG TTDr 20 12 (.tu 11)) l12_1 = true := by kernel_rfl
end Go.Av


open Go Go.Av Go.Proofs
set_option maxRecDepth 1000000
set_option linter.all false
namespace Go.Av
variable [Tok]
theorem c12_2 : allT (checkE Tryz.prog fsDr3 100000 GG TTDr 20 12 (.tu 11)) l12_2 = true := by kernel_rfl
end Go.Av
