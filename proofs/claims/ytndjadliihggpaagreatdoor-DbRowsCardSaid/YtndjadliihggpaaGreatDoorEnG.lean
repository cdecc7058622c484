/- A part of the proof: what a machine of our own over the model's code answers is what the model does; no condition. -/
import Derived.Test.YtndjadliihggpaaGreatDoorEnB
set_option linter.all false
open Go Go.Av Go.Proofs
set_option maxRecDepth 1000000
set_option linter.all false
namespace Go.Av
variable [Tok]
theorem c12_19 : allT (checkE Tryz.prog fsDr3 100000 GG TTDr 20 12 (.tu 11)) l12_19 = true := by kernel_rfl
end Go.Av


open Go Go.Av Go.Proofs
set_option maxRecDepth 1000000
set_option linter.all false
namespace Go.Av
variable [Tok]
theorem c12_20 : allT (checkE Tryz.prog fsDr3 100000 GG TTDr 20 12 (.tu 11)) l12_20 = true := by kernel_rfl
end Go.Av


open Go Go.Av Go.Proofs
set_option maxRecDepth 1000000
set_option linter.all false
namespace Go.Av
variable [Tok]
theorem c12_21 : allT (checkE Tryz.prog fsDr3 100000 GG TTDr 20 12 (.tu 11)) l12_21 = true := by kernel_rfl
end Go.Av


open Go Go.Av Go.Proofs
set_option maxRecDepth 1000000
set_option linter.all false
namespace Go.Av
variable [Tok]
theorem c12_22 : allT (checkE Tryz.prog fsDr3 100000 GG TTDr 20 12 (.tu 11)) l12_22 = true := by kernel_rfl
end Go.Av


open Go Go.Av Go.Proofs
set_option maxRecDepth 1000000
set_option linter.all false
namespace Go.Av
variable [Tok]
theorem c12_23 : allT (checkE Tryz.prog fsDr3 100000 GG TTDr 20 12 (.tu 11)) l12_23 = true := by kernel_rfl
end Go.Av
