/- A part of the proof: what a machine of our own over the model's code answers is what the model does; no condition. -/
import Derived.Test.YtndjadliihggpaaGreatDoorEnB
set_option linter.all false
open Go Go.Av Go.Proofs
set_option maxRecDepth 1000000
set_option linter.all false
namespace Go.Av
variable [Tok]
theorem c12_8 : allT (checkE Tryz.prog fsDr3 100000 GG TTDr 20 12 (.tu 11)) l12_8 = true := by kernel_rfl
end Go.Av


open Go Go.Av Go.Proofs
set_option maxRecDepth 1000000
set_option linter.all false
namespace Go.Av
variable [Tok]
theorem c12_9 : allT (checkE Tryz.prog fsDr3 100000 GG TTDr 20 12 (.tu 11)) l12_9 = true := by kernel_rfl
end Go.Av


open Go Go.Av Go.Proofs
set_option maxRecDepth 1000000
set_option linter.all false
namespace Go.Av
variable [Tok]
theorem c12_10 : allT (checkE Tryz.prog fsDr3 100000 GG TTDr 20 12 (.tu 11)) l12_10 = true := by kernel_rfl
end Go.Av


open Go Go.Av Go.Proofs
set_option maxRecDepth 1000000
set_option linter.all false
namespace Go.Av
variable [Tok]
theorem c12_11 : allT (checkE Tryz.prog fsDr3 100000 GG TTDr 20 12 (.tu 11)) l12_11 = true := by kernel_rfl
end Go.Av


open Go Go.Av Go.Proofs
set_option maxRecDepth 1000000
set_option linter.all false
namespace Go.Av
variable [Tok]
theorem c12_12 : allT (checkE Tryz.prog fsDr3 100000 GG TTDr 20 12 (.tu 11)) l12_12 = true := by kernel_rfl
end Go.Av
