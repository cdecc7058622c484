/- A part of the proof: what a machine of our own over the model's code answers is what the model does; no condition. -/
import Derived.Test.YtndjadliihggpaaGreatDoorEnB
set_option linter.all false
open Go Go.Av Go.Proofs
set_option maxRecDepth 1000000
set_option linter.all false
namespace Go.Av
variable [Tok]
theorem c12_39 : allT (checkE Tryz.prog fsDr3 100000 GG TTDr 20 12 (.tu 11)) l12_39 = true := by kernel_rfl
end Go.Av


open Go Go.Av Go.Proofs
set_option maxRecDepth 1000000
set_option linter.all false
namespace Go.Av
variable [Tok]
theorem c12_40 : allT (checkE Tryz.prog fsDr3 100000 GG TTDr 20 12 (.tu 11)) l12_40 = true := by kernel_rfl
end Go.Av


open Go Go.Av Go.Proofs
set_option maxRecDepth 1000000
set_option linter.all false
namespace Go.Av
variable [Tok]
theorem c12_41 : allT (checkE Tryz.prog fsDr3 100000 GG TTDr 20 12 (.tu 11)) l12_41 = true := by kernel_rfl
end Go.Av


open Go Go.Av Go.Proofs
set_option maxRecDepth 1000000
set_option linter.all false
namespace Go.Av
variable [Tok]
theorem c12_42 : allT (checkE Tryz.prog fsDr3 100000 GG TTDr 20 12 (.tu 11)) l12_42 = true := by kernel_rfl
end Go.Av


open Go Go.Av Go.Proofs
set_option maxRecDepth 1000000
set_option linter.all false
namespace Go.Av
variable [Tok]
theorem c12_43 : allT (checkE Tryz.prog fsDr3 100000 GG TTDr 20 12 (.tu 11)) l12_43 = true := by kernel_rfl
end Go.Av
